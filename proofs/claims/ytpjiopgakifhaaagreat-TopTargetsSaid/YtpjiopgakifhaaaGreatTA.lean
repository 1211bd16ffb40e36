import Derived.WalkKit
import Derived.Below
set_option linter.unusedSectionVars false
set_option linter.unusedSimpArgs false
set_option linter.unusedVariables false
set_option maxRecDepth 100000
namespace Go
abbrev J0:=@List.getD_eq_getElem?_getD
abbrev J1:=@Nat.le_refl
abbrev J2:=@Bool.and_eq_true
abbrev J3:=@Option.some.injEq
abbrev J4:=@List.getElem?_eq_getElem
abbrev J5:=@List.getElem?_map
abbrev J6:=@Int.mul_comm
abbrev J7:=@List.getElem?_eq_none
abbrev J8:=@List.map_cons
abbrev J9:=@Iff.rfl
abbrev Ja:=@Int.mul_nonneg
abbrev Jb:=@List.getElem?_eq_some_iff
abbrev Jc:=@List.length_cons
abbrev Jd:=@Nat.eq_of_beq_eq_true
abbrev Je:=@Int.mul_pos
abbrev Jf:=@Array.getD_eq_getD_getElem?
abbrev Jg:=@Nat.zero_add
abbrev Jh:=@Int.mul_le_mul_of_nonneg_right
abbrev Ji:=@Nat.add_mul
abbrev Jj:=@List.nil_append
abbrev Jk:=@Int.mul_assoc
abbrev Jl:=@Nat.mul_le_mul_right
abbrev Jm:=@Int.emod_nonneg
abbrev Jn:=@Nat.le_trans
abbrev Jo:=@Int.emod_lt_of_pos
abbrev Jp:=@Option.map_eq_some_iff
abbrev Jq:=@List.append_assoc
abbrev Jr:=@Bool.false_eq_true
abbrev Js:=@List.all_eq_true
abbrev Jt:=@Int.mul_le_mul_of_nonneg_left
abbrev Ju:=@Int.le_of_lt
abbrev Jv:=@Nat.add_zero
abbrev Jw:=@Nat.eq_zero_or_pos
abbrev Jy:=@List.getElem?_append_right
abbrev Jz:=@List.take_of_length_le
abbrev K0:=@List.cons_append
abbrev K3:=@Array.getElem?_eq_some_iff
abbrev K4:=@Option.map_some
abbrev K5:=@Option.getD_some
abbrev K6:=@List.getElem?_set
abbrev K7:=@Int.toNat_natCast
abbrev K8:=@Int.one_mul
abbrev K9:=@Nat.div_lt_iff_lt_mul
abbrev Ka:=@List.getElem?_append_left
abbrev Kb:=@Int.ediv_nonneg
abbrev Kc:=@Int.pow_zero
abbrev Kd:=@List.mem_cons
abbrev Ke:=@Int.mul_one
abbrev Kf:=@List.length_nil
abbrev Kg:=@Int.mul_add
abbrev Kh:=@List.mem_map
abbrev Ki:=@Nat.mod_lt
abbrev Kj:=@List.length_take
abbrev Kk:=@Int.pow_succ
abbrev Kl:=@Int.ediv_lt_iff_lt_mul
abbrev Km:=@Nat.mul_comm
abbrev Kn:=@List.mem_range
abbrev Ko:=@List.size_toArray
abbrev Kq:=@Nat.beq_eq
abbrev Kr:=@List.eq_nil_of_length_eq_zero
abbrev Ks:=@List.length_set
abbrev Kt:=@Nat.add_assoc
abbrev Ku:=@List.getElem_mem
abbrev Kv:=@Nat.lt_or_ge
abbrev Kw:=@List.append_nil
abbrev Kx:=@Int.le_refl
abbrev Ky:=@Int.tdiv_eq_ediv_of_nonneg
abbrev Kz:=@Array.replicate_succ
abbrev Q0:=@Array.replicate_zero
abbrev Q1:=@List.push_toArray
abbrev Q2:=@List.append_toArray
abbrev Q3:=@List.filter_cons
abbrev Q4:=@Prod.mk.injEq
abbrev Q5:=@Nat.div_add_mod
abbrev Q6:=@List.getElem?_take
abbrev Q7:=@List.range_succ
abbrev Q8:=@Int.eq_ofNat_of_zero_le
abbrev Q9:=@List.getElem?_range
abbrev Qa:=@List.drop_eq_getElem_cons
abbrev Qb:=@Int.mul_le_mul
abbrev Qc:=@Nat.testBit_or
abbrev Qd:=@Int.ediv_ediv_of_nonneg
abbrev Qe:=@Int.lt_or_le
abbrev Qf:=@Nat.lt_of_lt_of_le
abbrev Qg:=@List.getElem?_drop
abbrev Qh:=@Bool.true_and
abbrev Qi:=@Option.isSome_iff_exists
abbrev Qj:=@List.length_map
abbrev Qk:=@Nat.le_of_ble_eq_true
abbrev Ql:=@Int.toNat_zero
abbrev Qm:=@Int.mul_sub
abbrev Qn:=@Nat.min_eq_left
abbrev Qo:=@Int.add_mul
abbrev Qp:=@Int.le_ediv_iff_mul_le
abbrev Qq:=@Int.ediv_eq_zero_of_lt
abbrev Qr:=@Int.emod_eq_of_lt
abbrev Qs:=@Int.mul_ediv_add_emod
abbrev Qu:=@List.take_succ_cons
abbrev Qv:=@Array.getElem?_push
abbrev Qw:=@List.cons.injEq
abbrev Qx:=@List.map_append
abbrev Qy:=@List.replicate_succ
abbrev Qz:=@Bool.or_eq_true
abbrev X0:=@Nat.zero_le
abbrev X1:=@List.mem_flatMap
abbrev X2:=@Int.emod_def
abbrev X3:=@Int.add_mul_ediv_left
abbrev X4:=@List.take_add_one
abbrev X6:=@Int.add_zero
abbrev X7:=@Int.mul_left_comm
abbrev X8:=@Int.mul_lt_mul_of_pos_right
abbrev X9:=@Int.tmod_eq_emod_of_nonneg
abbrev Xa:=@List.length_pos_iff
abbrev Xb:=@List.take_append_drop
abbrev Xc:=@List.ext_getElem?
abbrev Xd:=@List.length_drop
abbrev Xe:=@Option.bind_eq_some_iff
abbrev Xf:=@Nat.sub_zero
abbrev Xg:=@Option.bind_some
abbrev Xh:=@List.getElem?_replicate
abbrev Xi:=@Nat.pow_succ
abbrev Xj:=@List.singleton_append
abbrev Xk:=@Int.natAbs_tdiv
abbrev Xl:=@List.map_congr_left
abbrev Xm:=@Bool.eq_iff_iff
abbrev Xn:=@List.mapM_cons
abbrev Xo:=@Function.comp_def
abbrev Xp:=@Array.getElem?_toList
abbrev Xq:=@List.flatMap_cons
abbrev Xr:=@Array.getElem?_eq_getElem
abbrev Xs:=@Array.getElem?_replicate
abbrev Xt:=@List.mem_append
abbrev Xu:=@BitVec.toNat_ofInt
abbrev Xv:=@Nat.pow_le_pow_right
abbrev Xy:=@List.getElem?_cons_zero
abbrev Xz:=@Array.ext_getElem?
abbrev Y0:=@List.length_append
abbrev Y1:=@List.mem_of_getElem?
abbrev Y2:=@Array.getElem?_eq_none
abbrev Y3:=@Array.getElem?_append
abbrev Y4:=@Option.toList_some
abbrev Y5:=@Int.natAbs_natCast
abbrev Y6:=@List.drop_of_length_le
abbrev Y7:=@List.filter_append
abbrev Ya:=@Array.getElem?_setIfInBounds_ne
abbrev Yb:=@List.getElem?_cons_succ
abbrev Yc:=@Array.size_setIfInBounds
abbrev Yd:=@Array.getElem?_setIfInBounds
abbrev Ye:=@Array.getElem?_extract
abbrev Yf:=@List.drop_eq_nil_of_le
abbrev Yg:=@Int.add_mul_emod_self_left
abbrev Yh:=@Int.gcd_natCast_natCast
abbrev Yi:=@Array.getElem?_setIfInBounds_self_of_lt
abbrev Yj:=@Int.mul_nonneg_of_nonpos_of_nonpos
abbrev Yv:=@Ne.symm
abbrev Yw:=@Option.some.inj
abbrev Yx:=@Bool.not_eq_true'
abbrev Yy:=@Nat.zero_mul
abbrev Yz:=@Nat.beq_refl
abbrev Z1:=@Nat.blt_eq
abbrev Z2:=@List.map_nil
abbrev Z3:=@Int.ediv_le_self
abbrev Z4:=@Nat.pow_pos
abbrev Z5:=@Int.ofNat_lt
abbrev Z6:=@Int.natAbs_eq
abbrev Z7:=@List.range'_succ
abbrev Z8:=@List.take_zero
abbrev Z9:=@Int.gcd_zero_right
abbrev Za:=@Nat.div_le_self
abbrev Zb:=@List.getD_cons_succ
abbrev Zc:=@Array.getElem?_modify
abbrev Zd:=@List.length_range
abbrev Ze:=@Nat.one_shiftLeft
abbrev Zf:=@Option.bind_eq_bind
abbrev Zg:=@List.mem_of_mem_take
abbrev Zh:=@Int.lt_of_le_of_lt
abbrev Zi:=@Int.lt_ediv_add_one_mul_self
end Go
namespace Go.Sx
open Go Go.RowKit
def jU (b:Bool) (p:Prop):Prop:=match b with
 |true=>p
 |false=>False
theorem aL {b:Bool} {p:Prop}:jU b p↔b=true/\p:=by cases b<;>simp [jU]
inductive XE : Type
 | v (i : Nat)
 | c (n : Int)
 | add (a b : XE)
 | sub (a b : XE)
 | mul (a b : XE)
 | quo (a b : XE)
 | mn (a b : XE)
 | mx (a b : XE)
mutual
inductive SV : Type
 | any
 | bool (b : Bool)
 | tt
 | ff
 | int (k : IntKind) (n : Int)
 | str (s : List UInt8)
 | aq
 | agg (l : List ar)
 | bp (l : List SV)
 | ptr (id q : Nat)
 | su (id aD q i j : Nat)
 | sl (id aD off len : Nat)
 | aI (es len : Nat) (f : Nat -> List SV)
 | rA (es len : Nat) (f : Nat -> List SV) (i j : Nat)
 | fn (f : Nat) (a b : List SV)
 | DG
 | emp
 | z9 (id : Nat)
 | km
 | lG
 | pn
 | Gl (e es n : Nat) (f : Nat -> List SV)
 | sy (k : IntKind) (e : XE) (lo hi : Int)
 | tg (i : Nat)
inductive ar : Type
 | s (v : SV)
 | a (n es : Nat) (f : Nat -> List SV)
end
instance : Inhabited SV := ⟨.any⟩
instance : Inhabited ar := ⟨.s .any⟩
def LZ :SV->Bool
 | .aI _ _ _| .aq=>true
 |_=>false
class bW where
 val : Nat -> Int
 tag : Nat -> SV
 row : ∀ i, LZ (tag i) = true
def XE.den [bW]:XE->Int
 | .v i=>bW.val i
 | .c n=>n
 | .add a b=>a.den+b.den
 | .sub a b=>a.den-b.den
 | .mul a b=>a.den*b.den
 | .quo a b=>a.den.tdiv b.den
 | .mn a b=>min a.den b.den
 | .mx a b=>max a.den b.den
variable [bW]
def ar.size :ar->Nat
 | .s _=>1
 | .a n es _=>n*es
def ar.es :ar->Nat
 | .s _=>1
 | .a _ es _=>es
def ar.at :ar->Nat->Option SV
 | .s v,0=>some v
 | .s _,_+1=>none
 | .a n es f,k=>if k<n*es then(f (k/es))[k%es]? else none
def aa :List ar->Nat
 |[]=>0
 |x::r=>x.size+aa r
def flat :List ar->Nat->Option SV
 |[],_=>none
 |x::r,k=>if k<x.size then x.at k else flat r (k-x.size)
structure Own where
 env : Nat -> Nat -> Option (Option Nat)
 cap : Nat -> Nat -> Nat
 st : Nat -> Nat -> Nat
 es : Nat -> Nat -> Nat
def Own.empty :Own:=⟨fun _ _=>none,fun _ _=>0,fun _ _=>0,fun _ _=>0⟩
abbrev RO :=Nat->Nat->Option Value
inductive Rel (ro : RO) : Own -> SV -> Value -> Prop
 | any (o : Own) (v : Value) : Rel ro o .any v
 | bool (o : Own) (b : Bool) : Rel ro o (.bool b) (.bool b)
 | tt (o : Own) : Rel ro o .tt (.bool true)
 | ff (o : Own) : Rel ro o .ff (.bool false)
 | int (o : Own) (k : IntKind) (n : Int) : Rel ro o (.int k n) (.int k n)
 | str (o : Own) (s : List UInt8) : Rel ro o (.str s) (.string ⟨s.toArray⟩)
 | aq (o : Own) : Rel ro o .aq (.slice none 0 0)
 | agg (o : Own) (l : List ar) (cs : Array Value) (hs : cs.size = aa l) (h : ∀ k sv, flat l k = some sv -> Rel ro o sv (cs.getD k undef)) : Rel ro o (.agg l) (.agg cs)
 | bp (o : Own) (l : List SV) (vs : Array Value) (hs : vs.size = l.length) (h : ∀ i sv, l[i]? = some sv -> Rel ro o sv (vs.getD i undef)) : Rel ro o (.bp l) (.tuple vs)
 | ptr (o : Own) (id q b : Nat) (h : o.env id 0 = some (some b)) : Rel ro o (.ptr id q) (.pointer (some ⟨b, o.st id q, none⟩))
 | su (o : Own) (id aD q i j b : Nat) (h : o.env id aD = some (some b)) : Rel ro o (.su id aD q i j) (.pointer (some ⟨b, o.st id q + i * o.es id q + j, none⟩))
 | sl (o : Own) (id aD off len b : Nat) (h : o.env id aD = some (some b)) (hc : off + len <= o.cap id aD) : Rel ro o (.sl id aD off len) (.slice (some ⟨b, off * o.es id 0, none⟩) len (o.cap id aD - off))
 | Es (o : Own) (id aD off len : Nat) (h : o.env id aD = some none) (hl : len = 0) (ho : off = 0) : Rel ro o (.sl id aD off len) (.slice none 0 0)
 | fe (o : Own) (es len : Nat) (f : Nat -> List SV) (a : Option Addr) (cap : Nat) (h : len = 0) : Rel ro o (.aI es len f) (.slice a 0 cap)
 | aI (o : Own) (es len : Nat) (f : Nat -> List SV) (b k0 cap : Nat) (vs : Nat -> Value) (hc : len <= cap) (hl : ∀ i, i < len -> (f i).length = es) (hm : ∀ k, k < len * es -> ro b (k0 + k) = some (vs k))
  (h : ∀ i j sv, i < len -> (f i)[j]? = some sv -> Rel ro Own.empty sv (vs (i * es + j))) : Rel ro o (.aI es len f) (.slice (some ⟨b, k0, none⟩) len cap)
 | rA (o : Own) (es len : Nat) (f : Nat -> List SV) (i j b k0 : Nat) (vs : Nat -> Value) (hl : ∀ i, i < len -> (f i).length = es) (hm : ∀ k, k < len * es -> ro b (k0 + k) = some (vs k))
  (h : ∀ i j sv, i < len -> (f i)[j]? = some sv -> Rel ro Own.empty sv (vs (i * es + j))) (hi : i < len) : Rel ro o (.rA es len f i j) (.pointer (some ⟨b, k0 + i * es + j, none⟩))
 | fn (o : Own) (f : Nat) (a b : List SV) (va vb : Array Value) (ha : va.size = a.length) (hb : vb.size = b.length) (h1 : ∀ i sv, a[i]? = some sv -> Rel ro o sv (va.getD i undef)) (h2 : ∀ i sv, b[i]? = some sv -> Rel ro o sv (vb.getD i undef)) :
  Rel ro o (.fn f a b) (.func (.func f) va vb)
 | DG (o : Own) (v : Value) (h : v.oneCell' = true) : Rel ro o .DG v
 | emp (o : Own) (A : Addr) : Rel ro o .emp (.slice (some A) 0 0)
 | z9 (o : Own) (id b : Nat) (h : o.env id 0 = some (some b)) : Rel ro o (.z9 id) (.map (some b))
 | km (o : Own) : Rel ro o .km (.map none)
 | lG (o : Own) : Rel ro o .lG (.pointer none)
 | pn (o : Own) : Rel ro o .pn .nilFunc
 | sy (o : Own) (k : IntKind) (e : XE) (lo hi n : Int) (h : n = e.den) (hl : lo <= n) (hh : n <= hi) : Rel ro o (.sy k e lo hi) (.int k n)
 | tg (o : Own) (i : Nat) (v : Value) (h : Rel ro Own.empty (bW.tag i) v) : Rel ro o (.tg i) v
def ga (r r':RO):Prop:= ∀b o v,r b o=some v->r' b o=some v
theorem ga.refl (r:RO):ga r r:=fun _ _ _ h=>h
theorem ga.trans {a b c:RO} (h:ga a b) (k:ga b c):ga a c:=fun x y v e=>k x y v (h x y v e)
structure Own.le (o o' : Own) : Prop where
 env : ∀ id aD x, o.env id aD = some x -> o'.env id aD = some x
 cap : ∀ id aD x, o.env id aD = some x -> o'.cap id aD = o.cap id aD
 st : ∀ id aD x q, o.env id aD = some x -> o'.st id q = o.st id q
 es : ∀ id aD x q, o.env id aD = some x -> o'.es id q = o.es id q
theorem Own.le.refl (o:Own):o.le o:=⟨fun _ _ _ h=>h,fun _ _ _ _=>rfl,fun _ _ _ _ _=>rfl,fun _ _ _ _ _=>rfl⟩
theorem Own.le.trans {a b c:Own} (h:a.le b) (k:b.le c):a.le c:=
 ⟨fun i v x e=>k.env i v x (h.env i v x e),fun i v x e=>(k.cap i v x (h.env i v x e)).trans (h.cap i v x e),fun i v x q e=>(k.st i v x q (h.env i v x e)).trans (h.st i v x q e),fun i v x q e=>(k.es i v x q (h.env i v x e)).trans (h.es i v x q e)⟩
theorem Own.empty_le (o:Own):Own.empty.le o:=⟨(fun _ _ _ h=>by cases h),(fun _ _ _ h=>by cases h),(fun _ _ _ _ h=>by cases h),(fun _ _ _ _ h=>by cases h)⟩
theorem Rel.mono {r r':RO} {o:Own} {sv:SV} {v:Value} (h:Rel r o sv v): ∀{o':Own},ga r r'->o.le o'->Rel r' o' sv v:=by
 induction h with
 |any=>intros;exact .any _ _
 |bool=>intros;exact .bool _ _
 |tt=>intros;exact .tt _
 |ff=>intros;exact .ff _
 |int=>intros;exact .int _ _ _
 |str=>intros;exact .str _ _
 |aq=>intros;exact .aq _
 |agg o l cs hs h ih=>intro o' hr ho;exact .agg _ _ _ hs fun k sv e=>ih k sv e hr ho
 |bp o l vs hs h ih=>intro o' hr ho;exact .bp _ _ _ hs fun k sv e=>ih k sv e hr ho
 |ptr o id q b h=>intro o' hr ho;rw [<-ho.st id 0 _ q h];exact .ptr _ _ _ _ (ho.env _ _ _ h)
 |su o id aD q i j b h=>intro o' hr ho;rw [<-ho.st id aD _ q h,<-ho.es id aD _ q h];exact .su _ _ _ _ _ _ _ (ho.env _ _ _ h)
 |sl o id aD off len b h hc=>intro o' hr ho;rw [<-ho.cap id aD _ h,<-ho.es id aD _ 0 h];exact .sl _ _ _ _ _ _ (ho.env _ _ _ h) (by rw [ho.cap id aD _ h];exact hc)
 |Es o id aD off len h hl h0=>intro o' hr ho;exact .Es _ _ _ _ _ (ho.env _ _ _ h) hl h0
 |fe o es len f a cap h=>intros;exact .fe _ _ _ _ _ _ h
 |aI o es len f b k0 cap vs hc hl hm h ih=>intro o' hr ho;exact .aI _ _ _ _ _ _ _ vs hc hl (fun k hk=>hr _ _ _ (hm k hk)) fun i j sv hi e=>ih i j sv hi e hr (.refl _)
 |rA o es len f i j b k0 vs hl hm h hi ih=>intro o' hr ho;exact .rA _ _ _ _ _ _ _ _ vs hl (fun k hk=>hr _ _ _ (hm k hk)) (fun i j sv hi e=>ih i j sv hi e hr (.refl _)) hi
 |DG o v h=>intros;exact .DG _ _ h
 |emp o A=>intros;exact .emp _ _
 |z9 o id b h=>intro o' hr ho;exact .z9 _ _ _ (ho.env _ _ _ h)
 |km o=>intros;exact .km _
 |lG o=>intros;exact .lG _
 |pn o=>intros;exact .pn _
 |sy o k e lo hi n h hl hh=>intros;exact .sy _ _ _ _ _ _ h hl hh
 |tg o i v h ih=>intro o' hr ho;exact .tg _ _ _ (ih hr (.refl _))
 |fn o f a b va vb ha hb h1 h2 ih1 ih2=>intro o' hr ho;exact .fn _ _ _ _ _ _ ha hb (fun i sv e=>ih1 i sv e hr ho) (fun i sv e=>ih2 i sv e hr ho)
theorem Rel.own {r:RO} {o o':Own} {sv:SV} {v:Value} (h:Rel r o sv v) (ho:o.le o'):Rel r o' sv v:=h.mono (.refl _) ho
theorem cK {l:List ar} {k:Nat} {sv:SV} (h:flat l k=some sv):k<aa l:=by
 induction l generalizing k with
 |nil=>cases h
 |cons x r ih=>
  simp only [flat]at h;simp only [aa];split at h
  . omega
  . have:=ih h;omega
theorem jw (l r:List ar) (k:Nat):flat (l++r) k=if k<aa l then flat l k else flat r (k-aa l):=by
 induction l generalizing k with
 |nil=>simp [aa]
 |cons x l ih=>
  simp only [K0,flat,aa]
  by_cases h:k<x.size
  . simp [h];omega
  . simp only [h,if_false,ih]
    by_cases h2:k-x.size<aa l
    . rw [if_pos h2,if_pos (by omega)]
    . rw [if_neg h2,if_neg (by omega)];congr 1;omega
theorem cu (l r:List ar):aa (l++r)=aa l+aa r:=by
 induction l with
 |nil=>simp [aa]
 |cons x l ih=>simp only [K0,aa,ih];omega
theorem tO {l:List ar} {q:Nat} {x:ar} (h:l[q]?=some x) (k:Nat) (hk:k<x.size):flat l (aa (l.take q)+k)=x.at k:=by
 induction l generalizing q with
 |nil=>simp at h
 |cons y l ih=>
  cases q with
  |zero=>simp at h;subst h;simp [flat,aa,hk]
  |succ q=>
   simp at h;simp only [Qu,aa,flat];rw [if_neg (by omega),show y.size+aa (l.take q)+k-y.size=aa (l.take q)+k from by omega];exact ih h
theorem tj {l:List ar} {q:Nat} {x:ar} (h:l[q]?=some x):l=l.take q++x::l.drop (q+1):=by
 obtain⟨hq,rfl⟩:=Jb.1 h;rw [<-List.drop_eq_getElem_cons hq,Xb]
theorem Po {l:List ar} {q:Nat} {x y:ar} (h:l[q]?=some x) (hs:y.size=x.size) (k:Nat):
 flat (l.set q y) k=if aa (l.take q)<=k/\k<aa (l.take q)+x.size then y.at (k-aa (l.take q))else flat l k:=by
 have hq:=(Jb.1 h).1;have e1:l.set q y=l.take q++y::l.drop (q+1):=by
  rw [List.set_eq_take_append_cons_drop,if_pos hq]
 conv=>rhs;rw [tj h]
 rw [e1,jw,jw];simp only [flat];have e2:aa (List.take q (l.take q++x::l.drop (q+1)))=aa (l.take q):=by rw [<-tj h]
 rw [e2]
 by_cases hk:k<aa (l.take q)
 . rw [if_pos hk,if_neg (by omega),if_pos hk]
 . by_cases h2:k-aa (l.take q)<x.size
   . rw [if_neg hk,if_pos (by omega),if_pos (by omega)]
   . rw [if_neg hk,if_neg (by omega),if_neg (by omega),if_neg hk,if_neg h2,hs]
theorem US {l:List ar} {q:Nat} {x:ar} (h:l[q]?=some x):aa (l.take q)+x.size<=aa l:=by
 conv=>rhs;rw [tj h]
 simp only [cu,aa];omega
theorem lM {n es:Nat} {f:Nat->List SV} {i j:Nat} (hi:i<n) (hj:j<es):(ar.a n es f).at (i*es+j)=(f i)[j]?:=by
 have h1:(i*es+j)/es=i:=by
  rw [Km,Nat.mul_add_div (by omega),Nat.div_eq_of_lt hj,Jv]
 have h2:(i*es+j)%es=j:=by
  rw [Km,Nat.mul_add_mod,Nat.mod_eq_of_lt hj]
 have h3:i*es+j<n*es:=by
  have:(i+1)*es<=n*es:=Jl _ hi;rw [Ji]at this;omega
 simp only [ar.at,h3,if_true,h1,h2]
structure lZ where
 aD : Nat
 gN : Bool
 row : Bool
 app : Option TypeId
 ns : Nat
 es : Nat
 sh : List (Option (Nat × Nat))
def ar.shape :ar->Option (Nat×Nat)
 | .s _=>none
 | .a n es _=>some (n,es)
inductive Item
 | v (x : SV)
 | m (x : Option lZ)
 | s (x : ar)
inductive Loc
 | tm (t : Nat)
 | mt (id : Nat)
 | sg (id q : Nat)
 deriving DecidableEq
abbrev St :=Loc->Item
def St.uC (s:St) (id q:Nat):ar:=match s (.sg id q)with| .s x=>x|_=> .s .any
def St.az (s:St) (id n:Nat):List ar:=(List.range n).map (s.uC id)
def St.put (s:St) (l:Loc) (x:Item):St:=fun l'=>if l'=l then x else s l'
def St.apply (s:St):List (Loc×Item)->St
 |[]=>s
 |(l,x)::r=>(s.put l x).apply r
structure Live (B : Nat) (ro : RO) (own : Own) (az : List ar) (w : World) (id : Nat) (m : lZ) (b : Nat) : Prop where
 low : B <= b
 apart : ∀ o, ro b o = none
 body : ∃ cs e lo hi, w.heap[b]? = some (.cells cs e (lo, hi)) /\ (hi <= lo \/ aa az <= lo) /\ (∀ t, m.app = some t -> lo = 0 /\ hi = 0 /\ e = t /\ own.cap id m.aD <= maxLen) /\ aa az <= cs.size /\ (∀ k sv, flat az k = some sv -> Rel ro own sv (cs.getD k undef)) /\
  (m.row = false -> cs.size = aa az) /\ (m.row = true -> cs.size = own.cap id m.aD * own.es id 0)
structure TZ (B : Nat) (ro : RO) (own : Own) (az : List ar) (w : World) (id : Nat) (m : lZ) : Prop where
 st : ∀ q, q < m.ns -> own.st id q = aa (az.take q)
 es : ∀ q x, az[q]? = some x -> own.es id q = x.es
 row : m.row = true -> ∃ n f, az = [.a n m.es f] /\ (∀ b, own.env id m.aD = some (some b) -> n <= own.cap id m.aD)
 plain : m.row = false -> m.aD = 0 /\ m.sh = az.map ar.shape
 there : ∃ x, own.env id m.aD = some x
 nil : own.env id m.aD = some none -> m.row = true /\ ∃ f, az = [.a 0 m.es f]
 live : ∀ b, own.env id m.aD = some (some b) -> m.gN = false -> Live B ro own az w id m b
 dn : ∀ b, own.env id m.aD = some (some b) -> m.gN = true -> ∀ k, k < aa az -> ∃ v, ro b k = some v /\ ∀ sv, flat az k = some sv -> Rel ro Own.empty sv v
def cz (m:lZ):Bool:=m.gN&& !m.row&&Nat.beq m.ns 0
inductive mD (ro : RO) (own : Own) : Obj -> Nat -> Nat -> (Nat -> List SV) -> Prop
 | map (es : Array MapEntry) (clk n : Nat) (f : Nat -> List SV) (h : es.size = n) (hf : ∀ (i : Nat) (e : MapEntry), es[i]? = some e -> ∃ k v, f i = [k, v] /\ Rel ro own k e.key /\ Rel ro own v e.val) : mD ro own (.map es clk) n 2 f
 | iter (l : List UInt8) (pos n : Nat) (f : Nat -> List SV) (hf : ∃ k v, f 0 = [k, v] /\ Rel ro own k (.string ⟨l.toArray⟩) /\ Rel ro own v (.int .i64 (pos : Int))) (hn : n = 1) : mD ro own (.stringIter ⟨l.toArray⟩ pos) n 3 f
theorem mD.mono {ro ro':RO} {own own':Own} {o:Obj} {n e:Nat} {f:Nat->List SV} (h:mD ro own o n e f) (hr:ga ro ro') (ho:own.le own'):mD ro' own' o n e f:=by
 cases h with
 |map es clk n f h hf=>exact .map es clk n f h fun i x hx=>let⟨k,v,f1,f2,f3⟩:=hf i x hx;⟨k,v,f1,f2.mono hr ho,f3.mono hr ho⟩
 |iter l pos n f hf hn=>obtain⟨k,v,f1,f2,f3⟩:=hf;exact .iter l pos n f ⟨k,v,f1,f2.mono hr ho,f3.mono hr ho⟩ hn
structure ZL (B : Nat) (ro : RO) (own : Own) (w : World) (id n e : Nat) (f : Nat -> List SV) : Prop where
 at_ : ∃ b o, own.env id 0 = some (some b) /\ B <= b /\ w.heap[b]? = some o /\ (∀ c t fr, o ≠ .cells c t fr) /\ mD ro own o n e f /\ own.st id 0 = 0
structure vG (B : Nat) (ro : RO) (own : Own) (s : St) (w : World) : Prop where
 at_ : ∀ id m n e f, s (.mt id) = .m (some m) -> cz m = true -> s (.sg id 0) = .s (.a n e f) -> ZL B ro own w id n e f
 inj : ∀ id id' m m' b n e f n' e' f', s (.mt id) = .m (some m) -> s (.mt id') = .m (some m') -> cz m = true -> cz m' = true -> s (.sg id 0) = .s (.a n e f) -> s (.sg id' 0) = .s (.a n' e' f') -> own.env id 0 = some (some b) -> own.env id' 0 = some (some b) -> id = id'
theorem vG.mono {B:Nat} {ro ro':RO} {own own':Own} {s s':St} {w w':World} (h:vG B ro own s w) (hro:ga ro ro') (ho:own.le own') (hth: ∀id m,s (.mt id)= .m (some m)-> ∃x,own.env id m.aD=some x) (h0: ∀id m,s (.mt id)= .m (some m)->cz m=true->m.aD=0)
 (hmt: ∀id m,s' (.mt id)= .m (some m)->cz m=true->s (.mt id)= .m (some m)/\ ∀n e f,s' (.sg id 0)= .s (.a n e f)->s (.sg id 0)= .s (.a n e f)) (hheap: ∀b o,B<=b->(∀c t fr,o≠ .cells c t fr)->w.heap[b]?=some o->w'.heap[b]?=some o):vG B ro' own' s' w':=by
 have henv: ∀id m,s (.mt id)= .m (some m)->cz m=true->own'.env id 0=own.env id 0:=fun id m hm hk=>by
  obtain⟨x,hx⟩:=hth id m hm;rw [h0 id m hm hk]at hx;rw [ho.env _ _ _ hx,hx]
 refine⟨fun id m n e f h1 h2 h3=> ?_,fun id id' m m' b n e f n' e' f' h1 h2 h3 h4 g1 g2 h5 h6=> ?_⟩
 . obtain⟨q1,q2⟩:=hmt id m h1 h2;obtain⟨b,o,e1,e2,e3,e4,e5,e6⟩:=(h.at_ id m n e f q1 h2 (q2 _ _ _ h3)).at_;exact⟨b,o,by rw [henv id m q1 h2];exact e1,e2,hheap _ _ e2 e4 e3,e4,e5.mono hro ho,by rw [ho.st id 0 _ 0 e1];exact e6⟩
 . obtain⟨q1,r1⟩:=hmt id m h1 h3;obtain⟨q2,r2⟩:=hmt id' m' h2 h4;exact h.inj id id' m m' b _ _ _ _ _ _ q1 q2 h3 h4 (r1 _ _ _ g1) (r2 _ _ _ g2) (by rw [<-henv id m q1 h3];exact h5) (by rw [<-henv id' m' q2 h4];exact h6)
structure Env where
 B : Nat
 w0 : World
 R : RO
 N : Nat
 K : Own -> RO -> Prop
 mono : ∀ o o' r r', o.le o' -> ga r r' -> K o r -> K o' r'
def eb (w:World) (b o:Nat) (v:Value):Prop:=w.cell? ⟨b,o,none⟩=some v/\w.frozen? ⟨b,o,none⟩=false
theorem eb.mk' {w:World} {b o:Nat} {cs:Array Value} {e:TypeId} {lo hi:Nat} (h:w.heap[b]?=some (.cells cs e (lo,hi))) (ho:o<cs.size) (hf:hi<=lo\/o<lo):eb w b o (cs.getD o undef):=by
 refine⟨?_,?_⟩
 . rw [World.cell?];simp only [h];simp [ho]
 . rw [World.frozen?];simp only [h];simp;omega
theorem eb.of_heap {w w':World} {b o:Nat} {v:Value} (h:eb w b o v) (hh:w'.heap[b]?=w.heap[b]?):eb w' b o v:=by
 unfold eb World.cell? World.frozen? at*
 simp only [hh];exact h
structure bA (E : Env) (ro : RO) (own : Own) (s : St) (w : World) (a : Act) : Prop where
 below : Below E.B E.w0 w
 base : E.B <= w.heap.size
 defs : a.defers = []
 size : a.tmps.size = E.N
 tm : ∀ t sv, s (.tm t) = .v sv -> Rel ro own sv (a.tmps.getD t undef)
 cJ : ∀ b o v, ro b o = some v -> eb w b o v
 ee : ∀ b o, b < E.B -> ro b o = E.R b o
 gK : ∀ id m, s (.mt id) = .m (some m) -> TZ E.B ro own (s.az id m.ns) w id m
 fr : ∀ id, s (.mt id) = .m none -> ∀ aD, own.env id aD = none
 mY : ∀ id m, s (.mt id) = .m (some m) -> ∀ aD, m.aD < aD -> own.env id aD = none
 inj : ∀ id id' m m' b, s (.mt id) = .m (some m) -> s (.mt id') = .m (some m') -> m.gN = false -> m'.gN = false -> own.env id m.aD = some (some b) -> own.env id' m'.aD = some (some b) -> id = id'
 kk : E.K own ro
 mp : vG E.B ro own s w
theorem bA.th {E:Env} {ro:RO} {own:Own} {s:St} {w:World} {a:Act} (h:bA E ro own s w a) (id:Nat) (m:lZ) (hm:s (.mt id)= .m (some m)): ∃x,own.env id m.aD=some x:=(h.gK id m hm).there
theorem bA.m0 {E:Env} {ro:RO} {own:Own} {s:St} {w:World} {a:Act} (h:bA E ro own s w a) (id:Nat) (m:lZ) (hm:s (.mt id)= .m (some m)) (hk:cz m=true):m.aD=0:=((h.gK id m hm).plain (by simp [cz]at hk;exact hk.1.2)).1
theorem bA.mp' {E:Env} {ro ro':RO} {own own':Own} {s s':St} {w w':World} {a:Act} (h:bA E ro own s w a) (hro:ga ro ro') (ho:own.le own') (hmt: ∀id m,s' (.mt id)= .m (some m)->cz m=true->s (.mt id)= .m (some m)/\ ∀n e f,s' (.sg id 0)= .s (.a n e f)->s (.sg id 0)= .s (.a n e f)) (hheap: ∀b o,E.B<=b->(∀c t fr,o≠ .cells c t fr)->w.heap[b]?=some o->w'.heap[b]?=some o):vG E.B ro' own' s' w':=h.mp.mono hro ho h.th h.m0 hmt hheap
def dL (E:Env) (s:St) (w:World) (a:Act):Prop:= ∃ro own,bA E ro own s w a
theorem St.cQ (s:St) (l:Loc) (x:Item):s.put l x l=x:=by simp [St.put]
theorem St.bh (s:St) {l l':Loc} (x:Item) (h:l'≠l):s.put l x l'=s l':=by simp [St.put,h]
theorem St.Gw (s:St) (t:Nat) (x:Item) (id n:Nat):(s.put (.tm t) x).az id n=s.az id n:=by
 simp only [St.az];refine Xl fun q _=> ?_;simp [St.uC,St.put]
theorem St.bL (s:St) (id n q:Nat) (h:q<n):(s.az id n)[q]?=some (s.uC id q):=by
 simp [St.az,h]
theorem St.aU (s:St) (id n:Nat):(s.az id n).length=n:=by simp [St.az]
theorem bA.put {E:Env} {ro:RO} {own:Own} {s:St} {w:World} {a:Act} (h:bA E ro own s w a) {d:Nat} {sv:SV} {v:Value} (hd:d<E.N) (hr:Rel ro own sv v):
 bA E ro own (s.put (.tm d) (.v sv)) w (a.put (some d) v):=by
 refine {below:=h.below,base:=h.base,defs:=h.defs,size:=by simpa [Act.put]using h.size,tm:= ?_,cJ:=h.cJ,ee:=h.ee,gK:= ?_,fr:= ?_,mY:= ?_,inj:= ?_,kk:=h.kk,mp:=h.mp' (.refl _) (.refl _) (fun id m h1 h2=>⟨by rw [St.bh _ _ (by simp)]at h1;exact h1,fun n e f h3=>by rw [St.bh _ _ (by simp)]at h3;exact h3⟩) (fun _ _ _ _ h=>h)}
 . intro t sv' ht
   by_cases e:t=d
   . subst e;simp only [St.put,if_true,Item.v.injEq]at ht;subst ht;simp only [Act.put];rw [Jf,Yi (by rw [h.size];exact hd)];exact hr
   . rw [St.bh _ _ (by simpa using e)]at ht;simp only [Act.put];rw [Jf,Ya (by omega),<-Array.getD_eq_getD_getElem?];exact h.tm t sv' ht
 . intro id m hm;rw [St.bh _ _ (by simp)]at hm;rw [St.Gw];exact h.gK id m hm
 . intro id hm;rw [St.bh _ _ (by simp)]at hm;exact h.fr id hm
 . intro id m hm;rw [St.bh _ _ (by simp)]at hm;exact h.mY id m hm
 . intro id id' m m' b hm hm';rw [St.bh _ _ (by simp)]at hm hm';exact h.inj id id' m m' b hm hm'
theorem bA.world {E:Env} {ro:RO} {own:Own} {s:St} {w w':World} {a:Act} (h:bA E ro own s w a) (hh:w'.heap=w.heap) (h1:w'.os=w.os) (h2:w'.tape=w.tape) (h3:w'.output=w.output):bA E ro own s w' a:=by
 refine {below:=⟨h1.trans h.below.os,h2.trans h.below.tape,h3.trans h.below.output,by rw [hh];exact h.below.size,fun k hk=>by rw [hh];exact h.below.block k hk⟩,base:=by rw [hh];exact h.base,defs:=h.defs,size:=h.size,tm:=h.tm,cJ:= ?_,ee:=h.ee,gK:= ?_,fr:=h.fr,mY:=h.mY,inj:=h.inj,kk:=h.kk,mp:=h.mp' (.refl _) (.refl _) (fun _ _ h1 _=>⟨h1,fun _ _ _ h3=>h3⟩) (fun b _ _ _ h=>by rw [hh];exact h)}
 . intro b o v e;exact(h.cJ b o v e).of_heap (by rw [hh])
 . intro id m hm;have:=h.gK id m hm;refine {st:=this.st,es:=this.es,row:=this.row,plain:=this.plain,there:=this.there,nil:=this.nil,live:= ?_,dn:=this.dn};intro b hb hf;have hl:=this.live b hb hf;exact⟨hl.low,hl.apart,by rw [hh];exact hl.body⟩
theorem bA.cellH {E:Env} {ro:RO} {own:Own} {s:St} {w:World} {a:Act} (h:bA E ro own s w a) {id:Nat} {m:lZ} {b k:Nat} (hm:s (.mt id)= .m (some m)) (hb:own.env id m.aD=some (some b))
 (hk:k<aa (s.az id m.ns)): ∃v,eb w b k v/\ ∀sv,flat (s.az id m.ns) k=some sv->Rel ro own sv v:=by
 have he:=h.gK id m hm;cases hz:m.gN with
 |true=>
  obtain⟨v,hv,hr⟩:=he.dn b hb hz k hk;exact⟨v,h.cJ b k v hv,fun sv hs=>(hr sv hs).own (Own.empty_le _)⟩
 |false=>
  obtain⟨cs,e,lo,hi,hh,hf,_,hsz,hc,_,_⟩:=(he.live b hb hz).body;exact⟨cs.getD k undef, .mk' hh (Qf hk hsz) (by omega),hc k⟩
theorem bA.DR {E:Env} {ro:RO} {own:Own} {s:St} {w:World} {a:Act} (h:bA E ro own s w a) {id:Nat} {m:lZ} {b k:Nat} (hm:s (.mt id)= .m (some m)) (hb:own.env id m.aD=some (some b))
 (hk:k<aa (s.az id m.ns)): ∃v,w.cell? ⟨b,k,none⟩=some v/\ ∀sv,flat (s.az id m.ns) k=some sv->Rel ro own sv v:=
 let⟨v,h1,h2⟩:=h.cellH hm hb hk
 ⟨v,h1.1,h2⟩
theorem bA.cell {E:Env} {ro:RO} {own:Own} {s:St} {w:World} {a:Act} (h:bA E ro own s w a) {id:Nat} {m:lZ} {b k:Nat} {sv:SV} (hm:s (.mt id)= .m (some m)) (hb:own.env id m.aD=some (some b))
 (hf:flat (s.az id m.ns) k=some sv): ∃v,w.cell? ⟨b,k,none⟩=some v/\Rel ro own sv v:=by
 obtain⟨v,hv,hr⟩:=h.DR hm hb (cK hf);exact⟨v,hv,hr sv hf⟩
end Go.Sx
namespace Go.Sx
open Go Go.RowKit
variable [bW]
inductive Tx : Type
 | done (ws : List (Loc × Item))
 | rd (l : Loc) (k : Item -> Tx)
 | AU (p : Prop) (k : Tx)
 | kK (p : Prop) (d : Decidable p) (k : Tx)
 | fail
def Tx.ok (s:St):Tx->List (Loc×Item)->Prop
 | .done ws',ws=>ws'=ws
 | .rd l k,ws=>(k (s l)).ok s ws
 | .AU p k,ws=>p/\k.ok s ws
 | .kK p _ k,ws=>p/\k.ok s ws
 | .fail,_=>False
def Tx.reads (s:St):Tx->List Loc
 | .done _=>[]
 | .rd l k=>l::(k (s l)).reads s
 | .AU _ k=>k.reads s
 | .kK _ _ k=>k.reads s
 | .fail=>[]
theorem Tx.local {s s':St}: ∀(t:Tx),(∀l∈t.reads s,s' l=s l)-> ∀ws,t.ok s ws->t.ok s' ws
 | .done _,_,_,h=>h
 | .rd l k,hr,ws,h=>by
  have e:s' l=s l:=hr l (by simp [Tx.reads]);simp only [Tx.ok,e];exact Tx.local (k (s l)) (fun l' hl=>hr l' (by simp [Tx.reads,hl])) ws h
 | .AU p k,hr,ws,h=>⟨h.1,Tx.local k hr ws h.2⟩
 | .kK p _ k,hr,ws,h=>⟨h.1,Tx.local k hr ws h.2⟩
 | .fail,_,_,h=>h.elim
abbrev kK (p:Prop) [d:Decidable p] (k:Tx):Tx:= .kK p d k
abbrev bB :=List SV->Option (Prop×SV)
def rdT (t:Nat) (k:SV->Tx):Tx:= .rd (.tm t) fun| .v x=>k x|_=> .fail
def DJ (id:Nat) (k:lZ->Tx):Tx:= .rd (.mt id) fun| .m (some x)=>k x|_=> .fail
def oO (id:Nat) (k:Tx):Tx:= .rd (.mt id) fun| .m none=>k|_=> .fail
def Dx (id q:Nat) (k:ar->Tx):Tx:= .rd (.sg id q) fun| .s x=>k x|_=> .fail
def GS (id:Nat):Nat->Nat->(List ar->Tx)->Tx
 |_,0,k=>k []
 |q,n+1,k=>Dx id q fun x=>GS id (q+1) n fun r=>k (x::r)
def Ck :Value->Option SV
 | .bool true=>some .tt
 | .bool false=>some .ff
 | .int k n=>some (.int k n)
 | .string s=>some (.str s.data.toList)
 | .slice none 0 0=>some .aq
 | .pointer none=>some .lG
 | .map none=>some .km
 | .nilFunc=>some .pn
 |_=>none
def fR (o:Operand) (k:SV->Tx):Tx:=
 match o with
 | .tmp t=>rdT t k
 | .const v=>match Ck v with
  |some x=>k x
  |none=> .fail
 | .func f=>k (.fn f [] [])
 | .global _=> .fail
def jI :List Operand->(List SV->Tx)->Tx
 |[],k=>k []
 |o::r,k=>fR o fun x=>jI r fun xs=>k (x::xs)
def bm (N:Nat) (dst:Option Tmp) (x:SV):Tx:=
 match dst with
 |some d=>if d<N then .done [(.tm d, .v x)]else .fail
 |none=> .done []
def ib :SV->Bool
 | .any| .agg _| .bp _=>false
 |_=>true
def Lz :SV->Option Bool
 | .bool b=>some b
 | .tt=>some true
 | .ff=>some false
 |_=>none
def dY (c:Bool):SV->SV->SV
 | .int k x, .int k' y=>if k=k' then .int k (if c then x else y)else .any
 | .bool x, .bool y=> .bool (if c then x else y)
 | .bool x, .tt=> .bool (if c then x else true)
 | .bool x, .ff=> .bool (if c then x else false)
 | .tt, .bool y=> .bool (if c then true else y)
 | .ff, .bool y=> .bool (if c then false else y)
 | .tt, .tt=> .tt
 | .ff, .ff=> .ff
 | .tt, .ff=> .bool c
 | .ff, .tt=> .bool (!c)
 | .str x, .str y=> .str (if c then x else y)
 | .aq, .aq=> .aq
 | .aI es n f, .aI es' n' f'=>if es=es' then .aI es (if c then n else n') (fun i=>if c then f i else f' i)else .any
 | .aq, .aI es n f=> .aI es (if c then 0 else n) f
 | .aI es n f, .aq=> .aI es (if c then n else 0) f
 |x,y=>match c with
  |true=>x
  |false=>y
def af (c:Bool):List SV->List SV->List SV
 |x::r,y::r'=>dY c x y::af c r r'
 |_,_=>[]
def bZ (P:Program) (t:TypeId):Option Bool:=
 match P.underlying t with
 |some (.struct _)|some (.array _ _)=>some true
 |some _=>some false
 |none=>none
def cw (P:Program) (t:TypeId):Option Nat:=(P.info? t).map (·.size)
def zp (P:Program):Nat->TypeId->Option (List ar)
 |0,_=>none
 |d+1,t=>
  match P.underlying t with
  |some (.int k)=>some [.s (.int k 0)]
  |some .bool=>some [.s .ff]
  |some .string=>some [.s (.str [])]
  |some (.slice _)=>some [.s .aq]
  |some (.map _ _)=>some [.s .km]
  |some (.pointer _)=>some [.s .lG]
  |some (.struct fs)=>zeroFields (fun t=>zp P d t) fs.toList
  |some (.array n e)=>match zp P d e with
   |some l=>match cellsOf l with
    |some cs=>some [.a n cs.length fun _=>cs]
    |none=>none
   |none=>none
  |_=>none
 where
 zeroFields (z:TypeId->Option (List ar)):List Field->Option (List ar)
  |[]=>some []
  |f::fs=>match z f.type,zeroFields z fs with
   |some l,some r=>some (l++r)
   |_,_=>none
 cellsOf:List ar->Option (List SV)
  |[]=>some []
  | .s v::r=>(cellsOf r).map (v:: ·)
  | .a .. ::_=>none
def jQ :List ar->List Value->Bool
 |[],[]=>true
 | .s v::r,c::cs=>(match v,c with
  | .int k n, .int k' n'=>k==k'&&n==n'
  | .ff, .bool b=> !b
  | .str [], .string s=>s.size==0
  | .aq, .slice none 0 0=>true
  | .km, .map none=>true
  | .lG, .pointer none=>true
  |_,_=>false)&&jQ r cs
 | .a n es f::r,cs=>cs.length>=n*es&&((List.range n).all fun i=>spellsL (f i) ((cs.drop (i*es)).take es))&&jQ r (cs.drop (n*es))
 |_,_=>false
 where
 spellsL:List SV->List Value->Bool
  |[],[]=>true
  |v::r,c::cs=>(match v,c with
   | .int k n, .int k' n'=>k==k'&&n==n'
   | .ff, .bool b=> !b
   | .str [], .string s=>s.size==0
   | .aq, .slice none 0 0=>true
   | .km, .map none=>true
   | .lG, .pointer none=>true
   |_,_=>false)&&spellsL r cs
  |_,_=>false
def zeroOf (P:Program) (t:TypeId):Option (List ar×Value):=
 match zp P 8 t,(P.info? t).bind (·.zero)with
 |some l,some z=>if jQ l z.cells.toList then some (l,z)else none
 |_,_=>none
def qt :List (Option (Nat×Nat))->Nat->Nat->Option Nat
 |_,q,0=>some q
 |none::r,q,off+1=>qt r (q+1) off
 |some (n,es)::r,q,off+1=>if n*es<=off+1/\0<n*es then qt r (q+1) (off+1-n*es)else none
 |[],_,_+1=>none
def jL :List ar->Nat->Option (List ar)
 |_,0=>some []
 |x::r,m+1=>if x.size<=m+1/\0<x.size then(jL r (m+1-x.size)).map (x:: ·)else none
 |[],_+1=>none
def kT :List ar->Nat->Option (List ar)
 |l,0=>some l
 |x::r,m+1=>if x.size<=m+1/\0<x.size then kT r (m+1-x.size)else none
 |[],_+1=>none
def aV :List ar->Option (List SV)
 |[]=>some []
 | .s v::r=>(aV r).map (v:: ·)
 | .a .. ::_=>none
def ny :SV->Option (List SV)
 | .agg l=>aV l
 |v=>if ib v then some [v]else none
def ln :SV->Option (List ar)
 | .agg l=>some l
 |v=>if ib v then some [.s v]else none
def cE (l:List SV) (j:Nat) (vs:List SV):List SV:=l.take j++vs++l.drop (j+vs.length)
def bs (id:Nat):Nat->List ar->List (Loc×Item)
 |_,[]=>[]
 |q,x::r=>(.sg id q, .s x)::bs id (q+1) r
def lO (nid:Nat) (row:Bool) (app:Option TypeId) (es:Nat) (l:List ar):List (Loc×Item):=
 (.mt nid, .m (some ⟨0,false,row,app,l.length,es,if row then []else l.map ar.shape⟩))::bs nid 0 l
def uf (N nid:Nat) (dst:Option Tmp) (row:Bool) (app:Option TypeId) (es:Nat) (l:List ar) (x:SV):Tx:=
 match dst with
 |some d=>if d<N then oO nid (.done (lO nid row app es l++[(.tm d, .v x)]))else .fail
 |none=> .fail
def MG (N nid:Nat) (dst:Option Tmp) (x:SV):Tx:=
 match ln x with
 |some l=>uf N nid dst false none 0 l (.ptr nid 0)
 |none=> .fail
def CX (P:Program) (N nid:Nat) (dst:Option Tmp) (T:TypeId):Tx:=
 match zeroOf P T with
 |some (l,_)=>uf N nid dst false none 0 l (.ptr nid 0)
 |none=> .fail
def oo (agg:Bool) (n:Nat) (cs:List SV) (j:Nat):Option SV:=
 if agg then(if j+n<=cs.length then some (.agg (((cs.drop j).take n).map .s))else none)else(if n=1 then cs[j]? else none)
def x6 (P:Program) (N:Nat) (dst:Option Tmp) (T:TypeId) (x:SV):Tx:=
 match bZ P T,cw P T with
 |some agg,some n=>
  match x with
  | .ptr id q=>DJ id fun m=>
   if m.row then .fail else
   if agg then(if q<m.ns then GS id q (m.ns-q) fun l=>match jL l n with
    |some l'=>bm N dst (.agg l')
    |none=> .fail else .fail)
   else Dx id q fun
    | .s v=>if q<m.ns then bm N dst v else .fail
    |_=> .fail
  | .su id aD q i j=>DJ id fun m=>
   if m.aD=aD/\q<m.ns then Dx id q fun
    | .a k es f=>kK (i<k) (if(f i).length=es then(match oo agg n (f i) j with
     |some v=>bm N dst v
     |none=> .fail)else .fail)
    |_=> .fail
   else .fail
  | .rA es _ f i j=>if(f i).length=es then(match oo agg n (f i) j with
   |some v=>bm N dst v
   |none=> .fail)else .fail
  |_=> .fail
 |_,_=> .fail
def lC :List ar->Bool
 |[]=>true
 | .s v::r=>ib v&&lC r
 | .a _ _ _::r=>lC r
def mF (es:Nat) (l:List SV):Bool:=l.length==es&&l.all ib
def wM :List ar->Tx->Tx
 |[],k=>k
 | .s _::r,k=>wM r k
 | .a n es f::r,k=>kK (∀i,i<n->mF es (f i)=true) (wM r k)
def BU (P:Program) (T:TypeId) (x v:SV):Tx:=
 match cw P T with
 |some n=>
  match x with
  | .ptr id q=>DJ id fun m=>
   if m.row\/m.gN then .fail else
   match ln v with
   |some l=>if aa l=n/\q+l.length<=m.ns/\(m.sh.drop q).take l.length=l.map ar.shape/\lC l=true then wM l (.done (bs id q l))else .fail
   |none=> .fail
  | .su id aD q i j=>DJ id fun m=>
   if m.aD=aD/\q<m.ns/\m.gN=false then Dx id q fun
    | .a k es f=>match ny v with
     |some cs=>kK (i<k) (if(f i).length=es/\j+cs.length<=es/\cs.length=n/\cs.all ib=true then .done [(.sg id q, .s (.a k es fun i'=>af (decide (i'=i)) (cE (f i) j cs) (f i')))]else .fail)
     |none=> .fail
    |_=> .fail
   else .fail
  |_=> .fail
 |none=> .fail
def nY (P:Program) (S:TypeId) (fi:Nat):Option Field:=
 match P.underlying S with
 |some (.struct fs)=>fs[fi]?
 |_=>none
def rp (P:Program) (N:Nat) (dst:Option Tmp) (S:TypeId) (fi:Nat) (x:SV):Tx:=
 match nY P S fi with
 |some f=>match cw P f.type with
  |some (_+1)=>match x with
   | .ptr id q=>DJ id fun m=>if m.row then .fail else match qt (m.sh.drop q) q f.offset with
    |some q'=>if q'<m.ns then bm N dst (.ptr id q')else .fail
    |none=> .fail
   | .su id aD q i j=>bm N dst (.su id aD q i (j+f.offset))
   | .rA es len g i j=>bm N dst (.rA es len g i (j+f.offset))
   |_=> .fail
  |_=> .fail
 |none=> .fail
def qq (P:Program) (N:Nat) (dst:Option Tmp) (T:TypeId) (x ix:SV):Tx:=
 match ix with
 | .int _ i=>match P.underlying T with
  |some (.array len e)=>match x,cw P e with
   | .ptr id q,some es=>DJ id fun m=>if m.row then .fail else
    if m.sh[q]?=some (some (len,es))then kK (0<=i/\i<(len:Int)) (bm N dst (.su id 0 q i.toNat 0))else .fail
   |_,_=> .fail
  |some (.slice e)=>match x,cw P e with
   | .sl id aD off len,some es=>DJ id fun m=>if m.row=true/\m.es=es then kK (0<=i/\i<(len:Int)) (bm N dst (.su id aD 0 (off+i.toNat) 0))else .fail
   | .aI es' len f,some es=>if es'=es then kK (0<=i/\i<(len:Int)) (bm N dst (.rA es' len f i.toNat 0))else .fail
   |_,_=> .fail
  |_=> .fail
 |_=> .fail
def Dv (P:Program) (N:Nat) (dst:Option Tmp) (T:TypeId) (x ix:SV):Tx:=
 match ix with
 | .int _ i=>match P.underlying T with
  |some (.array len e)=>match x,cw P e,bZ P e with
   | .agg [.a n es f],some es',some agg=>if n=len/\es=es' then kK (0<=i/\i<(len:Int)) (if(f i.toNat).length=es then(match oo agg es (f i.toNat) 0 with
    |some v=>bm N dst v
    |none=> .fail)else .fail)else .fail
   |_,_,_=> .fail
  |some .string=>match x with
   | .str s=>kK (0<=i/\i<(s.length:Int)) (bm N dst (.int .u8 ((s.getD i.toNat 0).toNat:Int)))
   |_=> .fail
  |_=> .fail
 |_=> .fail
def Dd (P:Program) (N:Nat) (dst:Option Tmp) (S:TypeId) (fi:Nat) (x:SV):Tx:=
 match nY P S fi,x with
 |some f, .agg l=>match bZ P f.type,cw P f.type,kT l f.offset with
  |some true,some n,some r=>match jL r n with
   |some l'=>bm N dst (.agg l')
   |none=> .fail
  |some false,some _,some (.s v::_)=>bm N dst v
  |_,_,_=> .fail
 |_,_=> .fail
def vv (N:Nat) (dst:Option Tmp) (i:Nat):SV->Tx
 | .bp l=>match l[i]? with
  |some v=>bm N dst v
  |none=> .fail
 |_=> .fail
def On (c a b:SV):Option SV:=
 match c with
 | .tt=>some a
 | .ff=>some b
 | .bool x=>some (dY x a b)
 |_=>none
def ot :SV->SV->Bool
 | .int _ x, .int _ y=>x==y
 | .str x, .str y=>x==y
 |x,y=>match Lz x,Lz y with
  |some a,some b=>a==b
  |_,_=>false
def tJ :List SV->List SV->Bool
 |x::r,y::r'=>ot x y&&tJ r r'
 |_,_=>true
def iI :List ar->List ar->Bool
 | .s x::r, .s y::r'=>ot x y&&iI r r'
 | .a n _ f::r, .a _ _ g::r'=>((List.range n).all fun i=>tJ (f i) (g i))&&iI r r'
 |_,_=>true
inductive CK
 | int (k : IntKind)
 | bool
 | str
 deriving DecidableEq
def iM :SV->Option CK
 | .int k _=>some (.int k)
 | .bool _| .tt| .ff=>some .bool
 | .str _=>some .str
 |_=>none
def sO :List SV->List CK->Bool
 |[],[]=>true
 |v::r,k::ks=>iM v==some k&&sO r ks
 |_,_=>false
def dC (P:Program):Nat->TypeId->Option (List CK)
 |0,_=>none
 |d+1,t=>
  match P.underlying t with
  |some (.int k)=>some [.int k]
  |some .bool=>some [.bool]
  |some .string=>some [.str]
  |some (.struct fs)=>if P.stoodInHeld t then none else fields (fun t=>dC P d t) P 0 fs.toList
  |some (.array n e)=>match dC P d e,cw P e with
   |some ks,some m=>if ks.length=m then some ((List.replicate n ks).flatten)else none
   |_,_=>none
  |_=>none
 where
 fields (z:TypeId->Option (List CK)) (P:Program) (off:Nat):List Field->Option (List CK)
  |[]=>some []
  |f::fs=>match z f.type,cw P f.type with
   |some l,some m=>if f.name≠ "_" /\f.offset=off/\l.length=m then(fields z P (off+m) fs).map (l++ ·)else none
   |_,_=>none
def aaa (es n:Nat) (ks:List CK):Bool:=(List.range n).all fun i=>decide ((ks.drop (i*es)).take es=ks.take es)
def ef :List ar->List CK->Prop
 |[],ks=>jU ks.isEmpty True
 | .s v::r,k::ks=>jU (iM v==some k) (ef r ks)
 | .a n es f::r,ks=>jU (aaa es n ks&&Nat.ble (n*es) ks.length) ((∀i,i<n->sO (f i) (ks.take es)=true)/\ef r (ks.drop (n*es)))
 |_,_=>False
instance fitsKDec : ∀ (l : List ar) (ks : List CK), Decidable (ef l ks)
 | [], ks => by unfold ef jU; cases ks.isEmpty <;> infer_instance
 | .s v :: r, k :: ks => by
  have := fitsKDec r ks;unfold ef jU; split <;> infer_instance
 | .a n es f :: r, ks => by
  have := fitsKDec r (ks.drop (n * es));unfold ef jU; split <;> infer_instance
 | .s v :: r, [] => by unfold ef; infer_instance
def bG :List ar->List ar->Bool
 |[],[]=>true
 |x::r,y::r'=>(match x,y with| .s _, .s _=>true| .a n es _, .a n' es' _=>n==n'&&es==es'|_,_=>false)&&bG r r'
 |_,_=>false
def E7 (op:BinOp) (k:IntKind) (x y:Int):Option SV:=
 match op with
 | .add=>some (.int k (k.wrap (x+y)))
 | .sub=>some (.int k (k.wrap (x-y)))
 | .mul=>some (.int k (k.wrap (x*y)))
 | .and| .or| .xor| .andNot=>some (.int k (bits op k x y))
 | .eql=>some (.bool (x==y))
 | .neq=>some (.bool (x !=y))
 | .lss=>some (.bool (decide (x<y)))
 | .leq=>some (.bool (decide (x<=y)))
 | .gtr=>some (.bool (decide (x>y)))
 | .geq=>some (.bool (decide (x>=y)))
 |_=>none
def yp (P:Program) (N:Nat) (dst:Option Tmp) (op:BinOp) (T:TypeId) (x y:SV):Tx:=
 match x,y with
 | .int k a, .int k' b=>
  match op with
  | .shl=>kK (0<=b) (bm N dst (.int k (k.wrap (a*2^min b.toNat k.bits))))
  | .shr=>kK (0<=b) (bm N dst (.int k (a/2^min b.toNat k.bits)))
  | .quo=>if k=k' then kK (b≠0) (bm N dst (.int k (k.wrap (a.tdiv b))))else .fail
  | .rem=>if k=k' then kK (b≠0) (bm N dst (.int k (a.tmod b)))else .fail
  |_=>if k=k' then(match P.underlying T,E7 op k a b with
   |some (.int _),some v=>bm N dst v
   |_,_=> .fail)else .fail
 | .str a, .str b=>
  match op with
  | .add=>kK (a.length+b.length<=9223372036854775807) (bm N dst (.str (a++b)))
  | .eql=>bm N dst (.bool (a==b))
  | .neq=>bm N dst (.bool (!(a==b)))
  |_=> .fail
 | .agg l, .agg l'=>
  match dC P 8 T with
  |some ks=>if P.eqGuardType P.depth T=false/\bG l l'=true/\bZ P T=some true then kK (ef l ks/\ef l' ks) (match op with
   | .eql=>bm N dst (.bool (iI l l'))
   | .neq=>bm N dst (.bool (!iI l l'))
   |_=> .fail)else .fail
  |none=> .fail
 |_,_=>match Lz x,Lz y,P.underlying T with
  |some a,some b,some .bool=>match op with
   | .eql=>bm N dst (.bool (a==b))
   | .neq=>bm N dst (.bool (!(a==b)))
   |_=> .fail
  |_,_,_=> .fail
def PO (N:Nat) (dst:Option Tmp) (op:UnOp) (x:SV):Tx:=
 match op,x with
 | .not, .bool b=>bm N dst (.bool (!b))
 | .not, .tt=>bm N dst .ff
 | .not, .ff=>bm N dst .tt
 | .neg, .int k n=>bm N dst (.int k (k.wrap (0-n)))
 | .xor, .int k n=>bm N dst (.int k (bits .xor k (if k.signed then-1 else k.max) n))
 |_,_=> .fail
def AV (P:Program) (N:Nat) (dst:Option Tmp) (S D:TypeId) (x:SV):Tx:=
 match P.underlying S,P.underlying D,x with
 |some (.int _),some (.int k), .int _ n=>bm N dst (.int k (k.wrap n))
 |_,_,_=> .fail
def B8 (P:Program) (T:TypeId):List (Nat×SV)->List ar->Option (List ar)
 |[],l=>some l
 |(i,v)::r,l=>match nY P T i,ln v with
  |some f,some vs=>if cw P f.type=some (aa vs)then(match jL l f.offset,kT l (f.offset+aa vs)with
   |some a,some b=>B8 P T r (a++vs++b)
   |_,_=>none)else none
  |_,_=>none
def sr (n es:Nat):List (Nat×SV)->(Nat->List SV)->Option (Nat->List SV)
 |[],f=>some f
 |(i,v)::r,f=>match ny v with
  |some cs=>if i<n/\cs.length=es then sr n es r (if n=1 then(fun _=>cs)else fun i'=>af (decide (i'=i)) cs (f i'))else none
  |none=>none
def CG (P:Program) (N:Nat) (dst:Option Tmp) (T:TypeId) (parts:List (Nat×SV)):Tx:=
 match zeroOf P T with
 |some (l,_)=>match P.underlying T,l with
  |some (.struct fs),l=>if fs.toList.all (fun f=>(cw P f.type).isSome)=true then(match B8 P T parts l with
   |some l'=>bm N dst (.agg l')
   |none=> .fail)else .fail
  |some (.array n e),[.a n' es f]=>if n=n'/\cw P e=some es then(match sr n es parts f with
   |some f'=>bm N dst (.agg [.a n es f'])
   |none=> .fail)else .fail
  |_,_=> .fail
 |none=> .fail
def gi (P:Program) (e:TypeId):Option (List SV):=
 match zeroOf P e with
 |some (l,_)=>aV l
 |none=>none
def dS (P:Program) (N nid:Nat) (dst:Option Tmp) (T:TypeId) (len:Nat) (parts:List (Nat×SV)):Tx:=
 match P.underlying T with
 |some (.slice e)=>match gi P e,cw P e with
  |some z,some es=>if z.length=es/\0<es/\len*es<=16777216 then(match sr len es parts (fun _=>z)with
   |some f=>uf N nid dst true (some e) es [.a len es f] (.sl nid 0 0 len)
   |none=> .fail)else .fail
  |_,_=> .fail
 |_=> .fail
def pt (P:Program) (N nid:Nat) (dst:Option Tmp) (T:TypeId) (x y:SV):Tx:=
 match P.underlying T,x,y with
 |some (.slice e), .int .i64 n, .int .i64 n'=>match gi P e,P.info? e with
  |some z,some i=>if z.length=i.size/\0<i.size then
   kK (n'=n/\0<=n/\n<=9223372036854775807/\(i.bytes:Int)*n<=281474976710656) (uf N nid dst true (some e) i.size [.a n.toNat i.size fun _=>z] (.sl nid 0 0 n.toNat))else .fail
  |_,_=> .fail
 |_,_,_=> .fail
def Dc :Option SV->Option Int
 |none=>some 0
 |some (.int _ n)=>some n
 |_=>none
def CW (len:Nat):Option SV->Option Int
 |none=>some (len:Int)
 |some (.int _ n)=>some n
 |_=>none
def Cv (P:Program) (N:Nat) (dst:Option Tmp) (T:TypeId) (x:SV) (lo hi:Option SV):Tx:=
 match P.underlying T,x with
 |some .string, .str s=>match Dc lo,CW s.length hi with
  |some l,some h=>kK (0<=l/\l<=h/\h<=(s.length:Int)) (bm N dst (.str ((s.take h.toNat).drop l.toNat)))
  |_,_=> .fail
 |some (.slice e), .aI es len f=>match Dc lo,CW len hi with
  |some l,some h=>if cw P e=some es then kK (0<=l/\l<=h/\h<=(len:Int)) (bm N dst (.aI es (h-l).toNat fun i=>f (l.toNat+i)))else .fail
  |_,_=> .fail
 |some (.slice e), .sl id aD off len=>match Dc lo,CW len hi with
  |some l,some h=>DJ id fun m=>if m.row=true/\cw P e=some m.es then(match Nat.ble 3 m.es,lo,hi with
   |true,none,some _=>kK (0<=h/\h<=(len:Int)) (bm N dst (.sl id aD off h.toNat))
   |true,some _,none=>Dx id 0 fun
    | .a _ es f=>if es=m.es then kK (l=(len:Int)) (bm N dst (.aI m.es 0 f))else .fail
    |_=> .fail
   |_,_,_=>kK (0<=l/\l<h/\h<=(len:Int)) (bm N dst (.sl id aD (off+l.toNat) (h-l).toNat)))else .fail
  |_,_=> .fail
 |_,_=> .fail
def yP (P:Program) (N:Nat) (dst:Option Tmp) (T:TypeId) (x hi mx:SV):Tx:=
 match P.underlying T,x,hi,mx with
 |some (.slice e), .aI es len f, .int _ h, .int _ m=>if cw P e=some es then kK (h=m/\0<=h/\h<=(len:Int)) (bm N dst (.aI es h.toNat f))else .fail
 |_,_,_,_=> .fail
def fM :SV->Bool
 | .bool _| .tt| .ff| .int _ _| .str _| .aq| .aI _ _ _| .DG| .emp| .km| .lG| .pn| .sy _ _ _ _| .tg _=>true
 |_=>false
def yr (es:Nat) (l:List SV):Bool:=l.length==es&&l.all fM
def gm :List ar->Prop
 |[]=>True
 | .s v::r=>jU (fM v) (gm r)
 | .a n es f::r=>(∀i,i<n->yr es (f i)=true)/\gm r
instance closedSegsDec : ∀ l : List ar, Decidable (gm l)
 | [] => by unfold gm; infer_instance
 | .s v :: r => by
  have := closedSegsDec r;unfold gm jU; split <;> infer_instance
 | .a n es f :: r => by
  have := closedSegsDec r;unfold gm; infer_instance
def gX :SV->Prop
 | .agg l=>gm l
 |v=>jU (fM v) True
instance closedSVDec : ∀ v : SV, Decidable (gX v) := fun v => by
 unfold gX; split
 . infer_instance
 . unfold jU; split <;> infer_instance
def xL (es:Nat) (x:SV) (k:Nat->(Nat->List SV)->Tx):Tx:=
 match x with
 | .aq=>k 0 fun _=>List.replicate es (.int .i64 0)
 | .aI es' len f=>if es'=es then k len f else .fail
 | .sl id aD off len=>DJ id fun m=>if m.row=true/\m.aD=aD/\m.es=es then Dx id 0 fun
  | .a n es' f=>if es'=es then kK (off+len<=n) (k len fun i=>f (off+i))else .fail
  |_=> .fail
  else .fail
 |_=> .fail
def Oh (P:Program) (N:Nat) (dst:Option Tmp) (T:TypeId) (x:SV):Tx:=
 match P.underlying T,x with
 |some .string, .str s=>bm N dst (.int .i64 (s.length:Int))
 |some (.array n _),_=>bm N dst (.int .i64 (n:Int))
 |some (.slice _), .aI _ len _=>bm N dst (.int .i64 (len:Int))
 |some (.slice _), .sl _ _ _ len=>bm N dst (.int .i64 (len:Int))
 |some (.slice _), .aq=>bm N dst (.int .i64 0)
 |_,_=> .fail
def XF :SV->SV->Option SV
 | .int k x, .int k' y=>if k=k' then some (.int k (if y<x then y else x))else none
 |_,_=>none
def Ga :SV->SV->Option SV
 | .int k x, .int k' y=>if k=k' then some (.int k (if y>x then y else x))else none
 |_,_=>none
def oF (N:Nat) (dst:Option Tmp):Option SV->Tx
 |some v=>bm N dst v
 |none=> .fail
def tG (nid d:Nat) (e:TypeId) (es bytes:Nat) (x:SV) (k:Nat) (g:Nat->List SV):Tx:=
 match x with
 | .aq=>kK (k<=140737488355328/\k*bytes<=140737488355328) (oO nid (.done (lO nid true (some e) es [.a k es g]++[(.tm d, .v (.sl nid 0 0 k))])))
 | .sl id aD off len=>DJ id fun m=>if m.row=true/\m.aD=aD/\m.es=es/\m.gN=false/\m.app=some e then Dx id 0 fun
  | .a n es' f=>if es'=es then kK (off=0/\len=n/\n+k<=140737488355328/\(n+k)*bytes<=140737488355328)
   (.done [(.mt id, .m (some {m with aD:=aD+1})),(.sg id 0, .s (.a (n+k) es fun j=>af (decide (j<n)) (f j) (g (j-n)))),(.tm d, .v (.sl id (aD+1) 0 (n+k)))])else .fail
  |_=> .fail
  else .fail
 |_=> .fail
def kY (P:Program) (N nid:Nat) (dst:Option Tmp) (T:TypeId) (x y:SV):Tx:=
 match P.underlying T with
 |some (.slice e)=>match gi P e,P.info? e,dst with
  |some z,some i,some d=>if z.length=i.size/\0<i.size/\d<N then
   xL i.size y fun k g=>
   kK (∀j,j<k->mF i.size (g j)=true) (tG nid d e i.size i.bytes x k g)else .fail
  |_,_,_=> .fail
 |_=> .fail
def isByte :List SV->Bool
 |[.int .u8 _]=>true
 |_=>false
def byteOf :List SV->UInt8
 |[.int .u8 n]=>UInt8.ofNat n.toNat
 |_=>0
def bytesOf (n:Nat) (g:Nat->List SV):List UInt8:=(List.range n).map fun j=>byteOf (g j)
def nQ (s:List UInt8) (i:Nat):List SV:=[.int .u8 ((s.getD i 0).toNat:Int)]
def yQ (P:Program) (N nid:Nat) (dst:Option Tmp) (S D:TypeId) (x:SV):Tx:=
 match P.underlying S,P.underlying D with
 |some (.slice e),some .string=>match P.underlying e with
  |some (.int .u8)=>xL 1 x fun k g=>kK (∀j,j<k->isByte (g j)=true) (bm N dst (.str (bytesOf k g)))
  |_=> .fail
 |some .string,some (.slice e)=>match P.underlying e,x with
  |some (.int .u8), .str s=>uf N nid dst true none 1 [.a s.length 1 (nQ s)] (.sl nid 0 0 s.length)
  |_,_=> .fail
 |_,_=>AV P N dst S D x
def tz :Option Value->Bool
 |some (.int .u8 0)=>true
 |_=>false
def vV (P:Program) (N nid:Nat) (dst:Option Tmp) (T U:TypeId) (x y:SV):Tx:=
 match P.underlying T,P.underlying U,y with
 |some (.slice e),some .string, .str s=>match P.info? e,dst with
  |some i,some d=>if tz i.zero=true/\i.size=1/\i.bytes=1/\d<N then tG nid d e 1 1 x s.length (nQ s)else .fail
  |_,_=> .fail
 |_,_,_=> .fail
def uz (N:Nat) (dst:Option Tmp) (x:SV) (k:Nat) (g:Nat->List SV):Tx:=
 match x with
 | .sl id aD off len=>DJ id fun m=>if m.row=true/\m.aD=aD/\m.es=1/\m.gN=false/\m.app.isSome=true then Dx id 0 fun
  | .a n es f=>match dst with
   |some d=>if es=1/\d<N then kK (off+len<=n/\0<len)
    (.done [(.sg id 0, .s (.a n 1 fun j=>af (decide (off<=j/\j<off+min k len)) (g (j-off)) (f j))),(.tm d, .v (.int .i64 ((min k len:Nat):Int)))])else .fail
   |none=> .fail
  |_=> .fail
  else .fail
 |_=> .fail
def G7 (P:Program) (N:Nat) (dst:Option Tmp) (T:TypeId) (x y:SV):Tx:=
 match P.underlying T with
 |some (.slice e)=>match P.info? e with
  |some i=>if i.size=1 then(match y with
   | .str s=>uz N dst x s.length (nQ s)
   |y=>xL 1 y fun k g=>kK (∀j,j<k->mF 1 (g j)=true) (uz N dst x k g))else .fail
  |none=> .fail
 |_=> .fail
def qh (x:SV) (k:SV->List (Loc×Item)->Tx):Tx:=
 match x with
 | .sl id aD off len=>DJ id fun m=>if m.row=true/\m.aD=aD then Dx id 0 fun
  | .a n es f=>if m.es=es then kK (off+len<=n/\ ∀i,i<n->yr es (f i)=true) (k (.aI es len fun i=>f (off+i)) [(.mt id, .m (some {m with gN:=true}))])else .fail
  |_=> .fail
  else .fail
 |v=>kK (gX v) (k v [])
def iL :List SV->(List SV->List (Loc×Item)->Tx)->Tx
 |[],k=>k [] []
 |x::r,k=>qh x fun x' ws=>iL r fun r' ws'=>k (x'::r') (ws++ws')
def MK :List ar->Bool
 |[]=>false
 | .s (.sl _ _ _ _)::_=>true
 |_::r=>MK r
def x7 (x:SV) (k:SV->List (Loc×Item)->Tx):Tx:=
 match x with
 | .agg l=>match MK l with
  |true=>match aV l with
   |some cs=>iL cs fun cs' ws=>k (.agg (cs'.map .s)) ws
   |none=> .fail
  |false=>kK (gX (.agg l)) (k (.agg l) [])
 |v=>qh v k
def cn :List SV->(List SV->List (Loc×Item)->Tx)->Tx
 |[],k=>k [] []
 |x::r,k=>x7 x fun x' ws=>cn r fun r' ws'=>k (x'::r') (ws++ws')
def wV (N nid:Nat) (dst:Option Tmp) (p:Prop) (ws:List (Loc×Item)) (e es n:Nat) (f:Nat->List SV) (x:SV):Tx:=
 match dst with
 |some d=>if d<N then .AU p (oO nid (.done (ws++(lO nid true (some e) es [.a n es f]++[(.tm d, .v x)]))))else .fail
 |none=> .fail
def UO :SV->Bool
 | .bool _| .tt| .ff| .str _| .aq| .aI _ _ _=>true
 |_=>false
def nonR (es:Nat) (l:List SV):Bool:=l.length==es&&l.all UO
def P0 (x x':SV) (k:SV->Tx):Tx:=match x' with
 | .aI es _ _=>match x with
  | .sl _ _ _ _=>xL es x fun n g=>kK (∀i,i<n->nonR es (g i)=true) (k (.aI es n g))
  |x=>kK (gX x) (k x)
 |_=>kK (gX x) (k x)
def NI :List SV->List SV->(List SV->Tx)->Tx
 |[],_,k=>k []
 |x::r,x'::r',k=>P0 x x' fun y=>NI r r' fun ys=>k (y::ys)
 |_::_,[],_=> .fail
def De :List SV->List SV->Bool
 | .sl _ _ _ _::r, .aI es _ _::r'=>Nat.ble 2 es&&De r r'
 | .sl _ _ _ _::_,_=>false
 | .agg l::r,_::r'=> !MK l&&De r r'
 |_::r,_::r'=>De r r'
 |_,_=>true
def SS :List SV->Bool
 |[]=>false
 | .sl _ _ _ _::_=>true
 |_::r=>SS r
def isI :SV->Bool
 | .int _ _=>true
 |_=>false
def xM :SV->Bool
 | .bool _| .tt| .ff| .int _ _| .str _| .aq=>true
 | .aI es _ _=>Nat.beq es 1
 |_=>false
def Dn :SV->Prop
 | .aI _ n f=> ∀i,i<n->(f i).all isI=true
 |_=>True
def El :List ar->Bool
 |[]=>true
 | .s v::r=>xM v&&El r
 | .a _ _ _::_=>false
def G9 :List ar->Prop
 |[]=>True
 | .s v::r=>Dn v/\G9 r
 | .a _ _ _::_=>False
def Be :SV->Bool
 | .agg l=>El l
 |v=>xM v
def Co :SV->Prop
 | .agg l=>G9 l
 |v=>Dn v
def EX :List SV->Bool
 |[]=>true
 |v::r=>Be v&&EX r
def HW :List SV->Prop
 |[]=>True
 |v::r=>Co v/\HW r
def thin :SV->Bool
 | .bp l=>EX l
 |v=>Be v
def Ig :SV->Prop
 | .bp l=>HW l
 |v=>Co v
def Ok (N:Nat) (dst:Option Tmp) (c:bB) (args args':List SV):Tx:=
 NI args args' fun a2=>match c a2 with
  |some (p,r)=>match thin r with
   |true=>match dst with
    |some d=>if d<N then .AU p (.AU (Ig r) (.done [(.tm d, .v r)]))else .fail
    |none=> .AU p (.AU (Ig r) (.done []))
   |false=> .fail
  |none=> .fail
def UK (N nid:Nat) (C:Nat->Option bB) (dst:Option Tmp) (f:Nat) (args:List SV):Tx:=
 match C f with
 |some c=>cn args fun args' ws=>match c args' with
  |some (p,r)=>match SS args&&(thin r&&De args args')with
   |true=>Ok N dst c args args'
   |false=>match r with
    | .Gl e es n g=>wV N nid dst p ws e es n g (.sl nid 0 0 n)
    | .bp (.Gl e es n g::rs)=>wV N nid dst p ws e es n g (.bp (.sl nid 0 0 n::rs))
    |r=>match dst with
     |some d=>if d<N then .AU p (.done (ws++[(.tm d, .v r)]))else .fail
     |none=> .AU p (.done ws)
  |none=> .fail
 |none=> .fail
def Hn (P:Program) (N nid:Nat) (C:Nat->Option bB) (dst:Option Tmp) (c:Call):Tx:=
 match c.callee with
 | .value g=>fR g fun
  | .fn f a b=>jI c.args.toList fun xs=>UK N nid C dst f (a++xs++b)
  |_=> .fail
 | .builtin b=>jI c.args.toList fun xs=>
  match b,xs,c.argTypes.toList with
  | .len,[x],[t]=>Oh P N dst t x
  | .min,[x,y],_=>oF N dst (XF x y)
  | .max,[x,y],_=>oF N dst (Ga x y)
  | .append,[x,y],[t,t']=>if t=t' then kY P N nid dst t x y else vV P N nid dst t t' x y
  | .copy,[x,y],[t,_]=>G7 P N dst t x y
  |_,_,_=> .fail
 |_=> .fail
def kf (P:Program) (N:Nat) (C:Nat->Option bB) (nid:Nat) (o:Oper):Tx:=
 match o.op with
 | .move x| .assign x=>fR x (bm N o.dst)
 | .pick c a b=>fR c fun c=>fR a fun a=>fR b fun b=>oF N o.dst (On c a b)
 | .extract t i=>fR t (vv N o.dst i)
 | .box _ x=>fR x (MG N nid o.dst)
 | .alloc T=>CX P N nid o.dst T
 | .load T x=>fR x (x6 P N o.dst T)
 | .store T x v=>match o.dst with
  |none=>fR x fun x=>fR v fun v=>BU P T x v
  |some _=> .fail
 | .fieldAddr S x f=>fR x (rp P N o.dst S f)
 | .indexAddr T x i=>fR x fun x=>fR i fun i=>qq P N o.dst T x i
 | .index T x i=>fR x fun x=>fR i fun i=>Dv P N o.dst T x i
 | .field S x f=>fR x (Dd P N o.dst S f)
 | .build T parts=>jI (parts.toList.map (·.2)) fun xs=>CG P N o.dst T ((parts.toList.map (·.1)).zip xs)
 | .buildSlice T len parts=>jI (parts.toList.map (·.2)) fun xs=>dS P N nid o.dst T len ((parts.toList.map (·.1)).zip xs)
 | .binOp op T x y _=>fR x fun x=>fR y fun y=>yp P N o.dst op T x y
 | .unOp op _ x=>fR x (PO N o.dst op)
 | .convert S D x=>fR x (yQ P N nid o.dst S D)
 | .makeSlice T l c=>fR l fun x=>fR c fun y=>pt P N nid o.dst T x y
 | .slice T x lo hi none=>fR x fun x=>rdOpt lo fun lo=>rdOpt hi fun hi=>Cv P N o.dst T x lo hi
 | .slice T x none (some hi) (some mx)=>fR x fun x=>fR hi fun hi=>fR mx fun mx=>yP P N o.dst T x hi mx
 | .makeFunc (.func f) a b=>jI a.toList fun a=>jI b.toList fun b=>bm N o.dst (.fn f a b)
 | .call c=>Hn P N nid C o.dst c
 |_=> .fail
 where
 rdOpt (o:Option Operand) (k:Option SV->Tx):Tx:=match o with
  |none=>k none
  |some o=>fR o fun x=>k (some x)
def fW (E:Env) (P:Program) (o:Oper) (s:St) (w:World) (a:Act) (ws:List (Loc×Item)):Prop:=
 ∀Q,o.wp P a w (fun a' w'=>dL E (s.apply ws) w' a') Q
theorem aM (s:St) (ws ws':List (Loc×Item)):s.apply (ws++ws')=(s.apply ws).apply ws':=by
 induction ws generalizing s with
 |nil=>rfl
 |cons x r ih=>obtain⟨l,i⟩:=x;exact ih _
theorem kA (s:St) (l:Loc) (x:Item):s.apply [(l,x)]=s.put l x:=rfl
theorem bc (id:Nat) (l:List ar): ∀(s:St) (q:Nat) (loc:Loc),(∀q',loc≠ .sg id q')->(s.apply (bs id q l)) loc=s loc:=by
 induction l with
 |nil=>intros;rfl
 |cons x r ih=>
  intro s q loc h;simp only [bs,St.apply];rw [ih _ _ _ h,St.bh _ _ (h q)]
theorem tn (id:Nat) (l:List ar): ∀(s:St) (q q':Nat),(s.apply (bs id q l)) (.sg id q')=match l[q'-q]? with
 |some x=>if q<=q' then .s x else s (.sg id q')
 |none=>s (.sg id q'):=by
 induction l with
 |nil=>intros;rfl
 |cons x r ih=>
  intro s q q';simp only [bs,St.apply];rw [ih]
  by_cases h1:q'=q
  . subst h1;rw [show q'-(q'+1)=0 from by omega,show q'-q'=0 from by omega];simp only [Xy,J1,if_true,St.cQ,show¬(q'+1<=q')from by omega,if_false];cases r[0]?<;>rfl
  . by_cases h2:q<q'
    . have e:q'-q=(q'-(q+1))+1:=by omega
      rw [e,Yb];rw [St.bh _ _ (by simpa using h1)];simp only [show q+1<=q' from by omega,show q<=q' from by omega,if_true]
    . have e1:q'-q=0:=by omega
      have e2:q'-(q+1)=0:=by omega
      rw [e1,e2,St.bh _ _ (by simpa using h1)];simp only [Xy,show¬(q+1<=q')from by omega,show¬(q<=q')from by omega,if_false];cases r[0]?<;>rfl
theorem St.jY (s:St) (id q:Nat) (l:List ar) (q':Nat):(s.apply (bs id q l)).uC id q'=if q<=q' then(l[q'-q]?).getD (s.uC id q')else s.uC id q':=by
 simp only [St.uC,tn];cases h:l[q'-q]? with
 |none=>simp
 |some x=>by_cases h2:q<=q'<;>simp [h2]
theorem qp (s:St) (id:Nat) (l:List ar):(s.apply (bs id 0 l)).az id l.length=l:=by
 apply Xc;intro i
 by_cases h:i<l.length
 . rw [St.bL _ _ _ _ h,St.jY];simp [h]
 . rw [J7 (by simpa [St.az]using h),J7 (by omega)]
theorem St.dc {s s':St} {id n:Nat} (h: ∀q,q<n->s' (.sg id q)=s (.sg id q)):s'.az id n=s.az id n:=by
 simp only [St.az];refine Xl fun q hq=> ?_
 simp only [St.uC,h q (Kn.1 hq)]
theorem Ui {s:St} {t:Nat} {k:SV->Tx} {ws} (h:(rdT t k).ok s ws): ∃x,s (.tm t)= .v x/\(k x).ok s ws:=by
 simp only [rdT,Tx.ok]at h;split at h
 . exact⟨_,by assumption,h⟩
 . exact h.elim
theorem fG {s:St} {id:Nat} {k:lZ->Tx} {ws} (h:(DJ id k).ok s ws): ∃m,s (.mt id)= .m (some m)/\(k m).ok s ws:=by
 simp only [DJ,Tx.ok]at h;split at h
 . exact⟨_,by assumption,h⟩
 . exact h.elim
theorem kC {s:St} {id:Nat} {k:Tx} {ws} (h:(oO id k).ok s ws):s (.mt id)= .m none/\k.ok s ws:=by
 simp only [oO,Tx.ok]at h;split at h
 . exact⟨by assumption,h⟩
 . exact h.elim
theorem lf {s:St} {id q:Nat} {k:ar->Tx} {ws} (h:(Dx id q k).ok s ws): ∃x,s.uC id q=x/\(k x).ok s ws:=by
 simp only [Dx,Tx.ok]at h;split at h
 . rename_i x hx;exact⟨x,by simp [St.uC,hx],h⟩
 . exact h.elim
theorem vg {s:St} {id:Nat}: ∀{n q:Nat} {k:List ar->Tx} {ws},(GS id q n k).ok s ws->(k ((List.range' q n).map (s.uC id))).ok s ws
 |0,_,_,_,h=>h
 |n+1,q,k,ws,h=>by
  obtain⟨x,hx,h⟩:=lf h;have:=vg h;rw [Z7,J8,hx];exact this
theorem Fy {ro:RO} {own:Own} {v:Value} {x:SV} (h:Ck v=some x):Rel ro own x v:=by
 unfold Ck at h;split at h<;>first
  |(obtain rfl:=Yw h;constructor)
  |cases h
def aQ (ro:RO) (own:Own):List SV->List Value->Prop
 |[],[]=>True
 |x::r,v::vs=>Rel ro own x v/\aQ ro own r vs
 |_,_=>False
theorem aQ.length {ro:RO} {own:Own}: ∀{xs:List SV} {vs:List Value},aQ ro own xs vs->xs.length=vs.length
 |[],[],_=>rfl
 |_::r,_::vs,h=>by simp [aQ.length (xs:=r) (vs:=vs) h.2]
 |[],_::_,h=>h.elim
 |_::_,[],h=>h.elim
theorem aQ.at {ro:RO} {own:Own}: ∀{xs:List SV} {vs:List Value},aQ ro own xs vs-> ∀(i:Nat) (x:SV),xs[i]?=some x-> ∃v,vs[i]?=some v/\Rel ro own x v
 |[],[],_,i,x,hx=>by simp at hx
 |y::r,v::vs,h,0,x,hx=>by simp at hx;subst hx;exact⟨v,rfl,h.1⟩
 |y::r,v::vs,h,i+1,x,hx=>by simp at hx;obtain⟨u,hu,hr⟩:=aQ.at h.2 i x hx;exact⟨u,by simpa using hu,hr⟩
 |[],_::_,h,_,_,_=>h.elim
 |_::_,[],h,_,_,_=>h.elim
theorem aQ.append {ro:RO} {own:Own}: ∀{xs:List SV} {vs:List Value} {ys us},aQ ro own xs vs->aQ ro own ys us->aQ ro own (xs++ys) (vs++us)
 |[],[],_,_,_,h=>h
 |_::_,_::_,_,_,h,k=>⟨h.1,aQ.append h.2 k⟩
 |[],_::_,_,_,h,_=>h.elim
 |_::_,[],_,_,h,_=>h.elim
theorem aQ.mono {ro ro':RO} {own own':Own} (hr:ga ro ro') (ho:own.le own'): ∀{xs:List SV} {vs:List Value},aQ ro own xs vs->aQ ro' own' xs vs
 |[],[],_=>trivial
 |_::_,_::_,h=>⟨h.1.mono hr ho,aQ.mono hr ho h.2⟩
 |[],_::_,h=>h.elim
 |_::_,[],h=>h.elim
theorem aQ.IW {ro:RO} {own:Own}: ∀{xs:List SV} {vs:List Value},vs.length=xs.length->(∀(i:Nat) (x:SV),xs[i]?=some x->Rel ro own x (vs.getD i undef))->aQ ro own xs vs
 |[],[],_,_=>trivial
 |x::r,v::vs,hl,h=>⟨by simpa using h 0 x rfl,aQ.IW (by simpa using hl) fun i y hy=>by simpa using h (i+1) y (by simpa using hy)⟩
 |[],_::_,hl,_=>by simp at hl
 |_::_,[],hl,_=>by simp at hl
section
variable {E : Env} {P : Program} {ro : RO} {own : Own} {s : St} {w : World} {a : Act}
theorem aZ (h:bA E ro own s w a) {o:Operand} {k:SV->Tx} {ws} (hk:(fR o k).ok s ws): ∃x,Rel ro own x (a.eval o)/\(k x).ok s ws:=by
 cases o with
 |tmp t=>
  obtain⟨x,hx,hk⟩:=Ui hk;exact⟨x,h.tm t x hx,hk⟩
 |const v=>
  simp only [fR]at hk;split at hk
  . exact⟨_,Fy (by assumption),hk⟩
  . exact hk.elim
 |global g=>exact hk.elim
 |func f=>exact⟨.fn f [] [], .fn _ _ _ _ _ _ rfl rfl (by simp) (by simp),hk⟩
theorem ku (h:bA E ro own s w a): ∀{os:List Operand} {k:List SV->Tx} {ws},(jI os k).ok s ws-> ∃xs,aQ ro own xs (os.map a.eval)/\(k xs).ok s ws
 |[],_,_,hk=>⟨[],trivial,hk⟩
 |o::r,k,ws,hk=>by
  obtain⟨x,hx,hk⟩:=aZ h hk;obtain⟨xs,hxs,hk⟩:=ku h hk;exact⟨x::xs,⟨hx,hxs⟩,hk⟩
theorem JE {dst:Option Tmp} {x:SV} {ws} (hk:(bm E.N dst x).ok s ws):(dst=none/\ws=[])\/ ∃d,dst=some d/\d<E.N/\ws=[(.tm d, .v x)]:=by
 cases dst with
 |none=>exact .inl ⟨rfl,hk.symm⟩
 |some d=>
  simp only [bm]at hk;split at hk
  . exact .inr ⟨d,rfl,by assumption,hk.symm⟩
  . exact hk.elim
theorem Gc (h:bA E ro own s w a) {dst:Option Tmp} {x:SV} {v:Value} {ws} (hk:(bm E.N dst x).ok s ws) (hr:Rel ro own x v):bA E ro own (s.apply ws) w (a.put dst v):=by
 rcases JE hk with⟨rfl,rfl⟩|⟨d,rfl,hd,rfl⟩
 . exact h
 . exact h.put hd hr
theorem aP (h:bA E ro own s w a) {o:Oper} {x:SV} {v:Value} {ws} (hrun:(execOp a.eval o).run P w= .ok (.value v) w) (hr:Rel ro own x v) (hk:(bm E.N o.dst x).ok s ws):fW E P o s w a ws:=by
 intro Q;unfold Oper.wp;rw [hrun];exact⟨ro,own,Gc h hk hr⟩
theorem bA.push (h:bA E ro own s w a) {nid:Nat} (hf:s (.mt nid)= .m none) {row:Bool} {es:Nat} {l:List ar} {cs:Array Value} {e lo hi cap:Nat} {w':World}
 (hw:w'.heap=w.heap.push (.cells cs e (lo,hi))) (h1:w'.os=w.os) (h2:w'.tape=w.tape) (h3:w'.output=w.output)
 (app:Option TypeId) (hrow:row=true-> ∃n f,l=[.a n es f]/\n<=cap/\cs.size=cap*es) (hpl:row=false->cs.size=aa l) (hsz:aa l<=cs.size)
 (hfz:hi<=lo\/aa l<=lo) (happ: ∀t,app=some t->lo=0/\hi=0/\e=t/\cap<=maxLen) (hrel: ∀k sv,flat l k=some sv->Rel ro own sv (cs.getD k undef)):
 ∃own',own.le own'/\own'.env nid 0=some (some w.heap.size)/\own'.cap nid 0=cap/\own'.st nid 0=0/\own'.es nid 0=(match l[0]? with|some x=>x.es|none=>0)/\
  bA E ro own' (s.apply ((.mt nid, .m (some ⟨0,false,row,app,l.length,es,if row then []else l.map ar.shape⟩))::bs nid 0 l)) w' a:=by
 have hsize:w'.heap.size=w.heap.size+1:=by rw [hw,Array.size_push]
 have hnew:w'.heap[w.heap.size]?=some (.cells cs e (lo,hi)):=by rw [hw,Qv,if_pos rfl]
 have hold: ∀k,k≠w.heap.size->w'.heap[k]?=w.heap[k]?:=fun k hk=>by rw [hw,Qv,if_neg hk]
 let own':Own:={env:=fun id aD=>if id=nid then(if aD=0 then some (some w.heap.size)else none)else own.env id aD,cap:=fun id aD=>if id=nid then cap else own.cap id aD,st:=fun id q=>if id=nid then aa (l.take q)else own.st id q,es:=fun id q=>if id=nid then(match l[q]? with|some x=>x.es|none=>0)else own.es id q}
 have hne: ∀id aD x,own.env id aD=some x->id≠nid:=by
  rintro id aD x hx rfl;rw [h.fr id hf aD]at hx;cases hx
 have hle:own.le own':=by
  refine⟨fun id aD x hx=> ?_,fun id aD x hx=> ?_,fun id aD x q hx=> ?_,fun id aD x q hx=> ?_⟩<;>simp [own',hne id aD x hx,hx]
 have hcell: ∀b o v,eb w b o v->eb w' b o v:=by
  intro b o v hv;have hb:=block_lt_of_cell hv.1;simp only at hb;exact hv.of_heap (hold b (by omega))
 have hsegs: ∀id n,id≠nid->(s.apply ((.mt nid, .m (some ⟨0,false,row,app,l.length,es,if row then []else l.map ar.shape⟩))::bs nid 0 l)).az id n=s.az id n:=by
  intro id n hid;refine St.dc fun q _=> ?_
  simp only [St.apply];rw [bc _ _ _ _ _ (by intro q';simp [hid]),St.bh _ _ (by simp)]
 have hmt: ∀id,id≠nid->(s.apply ((.mt nid, .m (some ⟨0,false,row,app,l.length,es,if row then []else l.map ar.shape⟩))::bs nid 0 l)) (.mt id)=s (.mt id):=by
  intro id hid;simp only [St.apply];rw [bc _ _ _ _ _ (by simp),St.bh _ _ (by simpa using hid)]
 have hmn:(s.apply ((.mt nid, .m (some ⟨0,false,row,app,l.length,es,if row then []else l.map ar.shape⟩))::bs nid 0 l)) (.mt nid)= .m (some ⟨0,false,row,app,l.length,es,if row then []else l.map ar.shape⟩):=by
  simp only [St.apply];rw [bc _ _ _ _ _ (by simp),St.cQ]
 have hsn:(s.apply ((.mt nid, .m (some ⟨0,false,row,app,l.length,es,if row then []else l.map ar.shape⟩))::bs nid 0 l)).az nid l.length=l:=by
  simp only [St.apply];exact qp _ _ _
 have hlt: ∀id m b,s (.mt id)= .m (some m)->m.gN=false->own.env id m.aD=some (some b)->b<w.heap.size:=by
  intro id m b hm hfz' hb;obtain⟨cs',e',lo',hi',hh,_⟩:=((h.gK id m hm).live b hb hfz').body;exact(K3.1 hh).1
 refine⟨own',hle,by simp [own'],by simp [own'],by simp [own',aa],by simp [own'],?_⟩;refine {below:= ?_,base:=by rw [hsize];exact Jn h.base (Nat.le_succ _),defs:=h.defs,size:=h.size,tm:= ?_,cJ:=fun b o v hv=>hcell b o v (h.cJ b o v hv),ee:=h.ee,gK:= ?_,fr:= ?_,mY:= ?_,inj:= ?_,kk:=E.mono _ _ _ _ hle (.refl _) h.kk,mp:=h.mp' (.refl _) hle (fun id m h1 h2=>by
  by_cases hid:id=nid
  . subst hid;rw [hmn]at h1;simp only [Item.m.injEq,J3]at h1;subst h1;simp [cz]at h2
  . rw [hmt id hid]at h1;refine⟨h1,fun n e f h3=> ?_⟩;simp only [St.apply]at h3;rw [bc _ _ _ _ _ (by intro q';simp [hid]),St.bh _ _ (by simp)]at h3;exact h3) (fun b o _ _ h5=>by rw [hold b (Nat.ne_of_lt (K3.1 h5).1)];exact h5)}
 . exact h.below.trans ⟨h1,h2,h3,by rw [hsize];omega,fun k hk=>hold k (by have:=h.base;omega)⟩
 . intro t sv ht;have e1:(s.apply ((.mt nid, .m (some ⟨0,false,row,app,l.length,es,if row then []else l.map ar.shape⟩))::bs nid 0 l)) (.tm t)=s (.tm t):=by
    simp only [St.apply];rw [bc _ _ _ _ _ (by simp),St.bh _ _ (by simp)]
   rw [e1]at ht;exact(h.tm t sv ht).own hle
 . intro id m hm
   by_cases hid:id=nid
   . subst hid;rw [hmn]at hm;simp only [Item.m.injEq,J3]at hm;subst hm;rw [hsn];refine {st:=fun q _=>by simp [own'],es:=fun q x hx=>by simp [own',hx],row:= ?_,plain:= ?_,there:=⟨some w.heap.size,by simp [own']⟩,nil:=fun hn=>by simp [own']at hn,live:= ?_,dn:=fun b _ hz=>by cases hz}
     . intro hr;obtain⟨n,f,hl,hn,_⟩:=hrow hr;exact⟨n,f,hl,fun b _=>by simpa [own']using hn⟩
     . intro hr;simp only at hr;exact⟨rfl,by simp [hr]⟩
     . intro b hb _;simp only [own',if_true,J3]at hb;subst hb;refine⟨h.base,fun o=> ?_,cs,e,lo,hi,hnew,hfz,(fun t ht=>by obtain⟨p1,p2,p3,p4⟩:=happ t ht;exact⟨p1,p2,p3,by simpa [own']using p4⟩),hsz,fun k sv hk=>(hrel k sv hk).own hle,fun hr=>hpl hr,fun hr=> ?_⟩
       . cases hro:ro w.heap.size o with
         |none=>rfl
         |some v=>
          have:=block_lt_of_cell (h.cJ _ _ _ hro).1;simp at this
       . obtain⟨n,f,hl,hn,hc⟩:=hrow hr;rw [hc,hl];simp [own',hl,ar.es]
   . rw [hmt id hid]at hm;rw [hsegs id m.ns hid];have he:=h.gK id m hm;obtain⟨x0,hx0⟩:=he.there;have e0: ∀aD,own'.env id aD=own.env id aD:=fun aD=>by simp [own',hid]
     have e1: ∀q,own'.st id q=own.st id q:=fun q=>by simp [own',hid]
     have e2: ∀q,own'.es id q=own.es id q:=fun q=>by simp [own',hid]
     have e3: ∀aD,own'.cap id aD=own.cap id aD:=fun aD=>by simp [own',hid]
     refine {st:=fun q hq=>by rw [e1];exact he.st q hq,es:=fun q x hx=>by rw [e2];exact he.es q x hx,row:=fun hr=> ?_,plain:=he.plain,there:=⟨x0,by rw [e0];exact hx0⟩,nil:=fun hn=>he.nil (by rw [<-e0];exact hn),live:=fun b hb hz=> ?_,dn:=fun b hb hz=>he.dn b (by rw [<-e0];exact hb) hz}
     . obtain⟨n,f,hl,hn⟩:=he.row hr;exact⟨n,f,hl,fun b hb=>by rw [e3];exact hn b (by rw [<-e0];exact hb)⟩
     . rw [e0]at hb;have hl:=he.live b hb hz;have hb':=hlt id m b hm hz hb;obtain⟨cs',e',lo',hi',hh,r1,r2,r3,r4,r5,r6⟩:=hl.body;exact⟨hl.low,hl.apart,cs',e',lo',hi',by rw [hold b (by omega)];exact hh,r1,(fun t ht=>by rw [e3];exact r2 t ht),r3,fun k sv hk=>(r4 k sv hk).own hle,r5,fun hr=>by rw [e3,e2];exact r6 hr⟩
 . intro id hm aD
   by_cases hid:id=nid
   . subst hid;rw [hmn]at hm;cases hm
   . rw [hmt id hid]at hm;simp only [own',hid,if_false];exact h.fr id hm aD
 . intro id m hm aD hv
   by_cases hid:id=nid
   . subst hid;rw [hmn]at hm;simp only [Item.m.injEq,J3]at hm;subst hm;simp only at hv;simp [own',show aD≠0 by omega]
   . rw [hmt id hid]at hm;simp only [own',hid,if_false];exact h.mY id m hm aD hv
 . intro id id' m m' b hm hm' hz hz' hb hb'
   by_cases hid:id=nid
   . by_cases hid':id'=nid
     . rw [hid,hid']
     . rw [hmt id' hid']at hm';subst hid;rw [hmn]at hm;simp only [Item.m.injEq,J3]at hm;subst hm;simp only [own',if_true,J3]at hb;simp only [own',hid',if_false]at hb';have:=hlt id' m' b hm' hz' hb';omega
   . rw [hmt id hid]at hm;simp only [own',hid,if_false]at hb
     by_cases hid':id'=nid
     . subst hid';rw [hmn]at hm';simp only [Item.m.injEq,J3]at hm';subst hm';simp only [own',if_true,J3]at hb';have:=hlt id m b hm hz hb;omega
     . rw [hmt id' hid']at hm';simp only [own',hid',if_false]at hb';exact h.inj id id' m m' b hm hm' hz hz' hb hb'
end
end Go.Sx
namespace Go.Sx
open Go Go.RowKit
variable [bW]
def dw (cs:Array Value) (k:Nat):List Value->Array Value
 |[]=>cs
 |v::r=>dw (cs.setIfInBounds k v) (k+1) r
theorem jn (vs:List Value): ∀(cs:Array Value) (k:Nat),(dw cs k vs).size=cs.size:=by
 induction vs with
 |nil=>intros;rfl
 |cons v r ih=>intro cs k;simp only [dw];rw [ih,Yc]
theorem jl (vs:List Value): ∀(cs:Array Value) (k j:Nat),k+vs.length<=cs.size->(dw cs k vs).getD j undef=if k<=j/\j<k+vs.length then vs.getD (j-k) undef else cs.getD j undef:=by
 induction vs with
 |nil=>intro cs k j _;simp [dw];intro h1 h2;omega
 |cons v r ih=>
  intro cs k j hle;simp only [Jc]at hle;simp only [dw,Jc];rw [ih _ _ _ (by rw [Yc];omega)]
  by_cases h1:j=k
  . subst h1;rw [if_neg (by omega),if_pos (by omega),Jf,Yi (by omega)];simp
  . by_cases h2:k<=j/\j<k+(r.length+1)
    . rw [if_pos (by omega),if_pos h2,show j-k=(j-(k+1))+1 from by omega,Zb]
    . rw [if_neg (by omega),if_neg h2,Jf,Ya (by omega),<-Array.getD_eq_getD_getElem?]
def gO (w:World) (b:Nat) (cs:Array Value) (e:TypeId) (lo hi:Nat):World:={w with heap:=w.heap.setIfInBounds b (.cells cs e (lo,hi))}
theorem HV {w:World} {b:Nat} {cs:Array Value} {e:TypeId} {lo hi:Nat} (h:w.heap[b]?=some (.cells cs e (lo,hi))):gO w b cs e lo hi=w:=by
 have:w.heap.setIfInBounds b (.cells cs e (lo,hi))=w.heap:=by
  apply Xz;intro i;rw [Yd];split
  . rename_i hi;subst hi;obtain⟨hb,he⟩:=K3.1 h;simp [hb,he]
  . rfl
 simp [gO,this]
theorem BA {w:World} {b:Nat} {cs cs':Array Value} {e:TypeId} {lo hi:Nat} (h:w.heap[b]?=some (.cells cs e (lo,hi))):(gO w b cs' e lo hi).heap[b]?=some (.cells cs' e (lo,hi)):=by
 have hb:=(K3.1 h).1;simp [gO,hb]
theorem uI {w:World} {b k:Nat} {cs':Array Value} {e:TypeId} {lo hi:Nat} (h:k≠b):(gO w b cs' e lo hi).heap[k]?=w.heap[k]?:=by
 simp [gO,Ya (Yv h)]
theorem xW {w:World} {b:Nat} {cs':Array Value} {e:TypeId} {lo hi:Nat}:(gO w b cs' e lo hi).heap.size=w.heap.size:=by simp [gO]
theorem Ef {w:World} {b:Nat} {cs cs':Array Value} {e:TypeId} {lo hi:Nat}:gO (gO w b cs e lo hi) b cs' e lo hi=gO w b cs' e lo hi:=by
 simp only [gO]
 congr 1
 apply Xz;intro i;simp only [Yd,Yc];split<;>rfl
theorem Ar {w:World} {b k:Nat} {cs:Array Value} {e:TypeId} {lo hi:Nat} (v:Value) (h:w.heap[b]?=some (.cells cs e (lo,hi))):w.setCell ⟨b,k,none⟩ v=gO w b (cs.setIfInBounds k v) e lo hi:=by
 simp only [World.setCell,gO]
 congr 1
 apply Xz;intro i;rw [Zc,Yd];split
 . rename_i hi;subst hi;obtain⟨hb,he⟩:=K3.1 h;simp [hb,he]
 . rfl
theorem qI {P:Program} {b off:Nat} {e:TypeId} {lo hi:Nat}: ∀(vs:List Value) (i:Nat) (w:World) (cs:Array Value),w.heap[b]?=some (.cells cs e (lo,hi))->(∀v∈vs,v.oneCell'=true)->off+i+vs.length<=cs.size->
 (hi<=lo\/off+i+vs.length<=lo)->(storeCells ⟨b,off,none⟩ vs i).run P w= .ok () (gO w b (dw cs (off+i) vs) e lo hi)
 |[],i,w,cs,h,_,_,_=>by simp [storeCells,dw,HV h]
 |v::r,i,w,cs,h,h1,h2,h3=>by
  simp only [Jc]at h2 h3;have hadd:(⟨b,off,none⟩:Addr).add i=⟨b,off+i,none⟩:=by
   unfold Addr.add;split
   . rename_i hz;simp [hz]
   . rfl
  have hc:w.cell? ⟨b,off+i,none⟩=some cs[off+i]:=by
   simp [World.cell?,h,show off+i<cs.size by omega]
  have hf:w.frozen? ⟨b,off+i,none⟩=false:=by
   simp only [World.frozen?,h];rcases h3 with h3|h3
   . simp;omega
   . simp;omega
  have hst:(store ⟨b,off+i,none⟩ v).run P w= .ok () (gO w b (cs.setIfInBounds (off+i) v) e lo hi):=by
   rw [run_store P w _ v _ (h1 v (by simp))];simp [stored,hc,hf,Ar v h]
  simp only [storeCells,hadd,Sem.run_bind,hst,Result.andThen_ok,dw];rw [qI r (i+1) _ _ (BA h) (fun u hu=>h1 u (by simp [hu])) (by rw [Yc];omega) (by omega),Ef];rfl
theorem zx {P:Program} {w:World} {b off n:Nat} {vs:Nat->Value} (h: ∀j,j<n->w.cell? ⟨b,off+j,none⟩=some (vs j)):(loadCells ⟨b,off,none⟩ n).run P w= .ok (Array.ofFn fun j:Fin n=>vs j) w:=by
 have hadd: ∀i,(⟨b,off,none⟩:Addr).add i=⟨b,off+i,none⟩:=by
  intro i;unfold Addr.add;split
  . rename_i hz;simp [hz]
  . rfl
 have gen: ∀(m i:Nat) (acc:Array Value),i+m=n->acc=Array.ofFn (fun j:Fin i=>vs j)->(loadCellsFrom ⟨b,off,none⟩ i m acc).run P w= .ok (Array.ofFn fun j:Fin n=>vs j) w:=by
  intro m
  induction m with
  |zero=>
   intro i acc hi ha;have:i=n:=by omega
   subst this;simp [loadCellsFrom,ha]
  |succ m ih=>
   intro i acc hi ha;simp only [loadCellsFrom,hadd,Sem.run_bind,run_load,h i (by omega),Result.andThen_ok];refine ih (i+1) _ (by omega) ?_;rw [ha];apply Array.ext
   . simp
   . intro j h1 h2;simp only [Array.size_push,Array.size_ofFn]at h1;simp only [Array.getElem_push,Array.size_ofFn,Array.getElem_ofFn];split
     . rfl
     . have:j=i:=by omega
       simp [this]
 exact gen n 0 #[] (by omega) (by simp)
theorem row_rel {ro:RO} {own:Own} {x:SV} {v:Value} (h:Rel ro own x v) (h1:LZ x=true):v.oneCell'=true:=by
 cases h<;>first|rfl|cases h1
theorem gk {ro:RO} {own:Own} {x:SV} {v:Value} (h:Rel ro own x v) (h1:ib x=true):v.oneCell'=true:=by
 cases h<;>first|assumption|rfl|exact row_rel ‹_› (bW.row _)|cases h1
theorem Bz {v:Value} (h:v.oneCell'=true):v.cells= #[v]:=by
 cases v<;>first|rfl|cases h
section
variable {E : Env} {P : Program} {ro : RO} {own : Own} {s : St} {w : World} {a : Act}
theorem sE {l l':List ar} (h:l.map ar.shape=l'.map ar.shape):aa l=aa l':=by
 induction l generalizing l' with
 |nil=>cases l' with
  |nil=>rfl
  |cons _ _=>simp at h
 |cons x r ih=>
  cases l' with
  |nil=>simp at h
  |cons y r'=>
   simp only [J8,Qw]at h;simp only [aa,ih h.2];have:x.size=y.size:=by
    have e:=h.1;cases x<;>cases y<;>simp [ar.shape,ar.size]at e⊢
    rw [e.1,e.2]
   omega
theorem GQ {l l':List ar} (h:l.map ar.shape=l'.map ar.shape) (q:Nat):(l.take q).map ar.shape=(l'.take q).map ar.shape:=by
 rw [List.map_take,List.map_take,h]
theorem OV {l l':List ar} (h:l.map ar.shape=l'.map ar.shape) {q:Nat} {x x':ar} (hx:l[q]?=some x) (hx':l'[q]?=some x'):x.es=x'.es:=by
 have e:(l.map ar.shape)[q]?=(l'.map ar.shape)[q]?:=by rw [h]
 simp only [J5,hx,hx',K4,J3]at e;cases x<;>cases x'<;>simp [ar.shape,ar.es]at e⊢
 exact e.2
theorem bA.U3 (h:bA E ro own s w a) {id b:Nat} {m:lZ} {cs:Array Value} {e:TypeId} {lo hi:Nat} (hm:s (.mt id)= .m (some m)) (hz:m.gN=false) (hb:own.env id m.aD=some (some b)) (hh:w.heap[b]?=some (.cells cs e (lo,hi)))
 {cs':Array Value} (hsz:cs'.size=cs.size) {s':St} (hother: ∀l,(∀q,l≠ .sg id q)->s' l=s l) (hshape:(s'.az id m.ns).map ar.shape=(s.az id m.ns).map ar.shape)
 (hrel: ∀k sv,flat (s'.az id m.ns) k=some sv->Rel ro own sv (cs'.getD k undef)):bA E ro own s' (gO w b cs' e lo hi) a:=by
 have he:=h.gK id m hm;have hl:=he.live b hb hz;have hmt: ∀i,s' (.mt i)=s (.mt i):=fun i=>hother _ (by simp)
 have hseg: ∀i n,i≠id->s'.az i n=s.az i n:=fun i n hi=>St.dc fun q _=>hother _ (by simp [hi])
 refine {below:= ?_,base:=by rw [xW];exact h.base,defs:=h.defs,size:=h.size,tm:= ?_,cJ:= ?_,ee:=h.ee,gK:= ?_,fr:= ?_,mY:= ?_,inj:= ?_,kk:=h.kk,mp:=h.mp' (.refl _) (.refl _) (fun i m' h1 h2=>by
  rw [hmt]at h1;have hne:i≠id:=by
   rintro rfl;rw [hm]at h1;cases h1;simp [cz,hz]at h2
  refine⟨h1,fun n e f h3=> ?_⟩;rw [hother _ (by simp [hne])]at h3;exact h3) (fun b' o _ hnc h5=>by
   have hne:b'≠b:=by rintro rfl;rw [hh]at h5;simp at h5;exact hnc _ _ _ h5.symm
   rw [uI hne];exact h5)}
 . exact h.below.trans ⟨rfl,rfl,rfl,by rw [xW];exact J1 _,fun k hk=>uI (by have:=hl.low;omega)⟩
 . intro t sv ht;rw [hother _ (by simp)]at ht;exact h.tm t sv ht
 . intro b' o v hv;have hne:b'≠b:=by
    rintro rfl;rw [hl.apart o]at hv;cases hv
   exact(h.cJ b' o v hv).of_heap (uI hne)
 . intro i m' hm';rw [hmt]at hm';have he':=h.gK i m' hm'
   by_cases hid:i=id
   . subst hid;rw [hm]at hm';simp only [Item.m.injEq,J3]at hm';subst hm';have hss:=sE hshape;refine {st:=fun q hq=>by rw [he'.st q hq];exact(sE (GQ hshape q)).symm,es:= ?_,row:= ?_,plain:=fun hr=>⟨(he'.plain hr).1,by rw [hshape];exact(he'.plain hr).2⟩,there:=he'.there,nil:=(fun hn=>by rw [hb]at hn;cases hn),live:= ?_,dn:=(fun b' _ hz'=>by rw [hz]at hz';cases hz')}
     . intro q x hx;have hlen:(s'.az i m.ns).length=(s.az i m.ns).length:=by simp [St.aU]
       have hq:q<(s.az i m.ns).length:=by rw [<-hlen];exact(Jb.1 hx).1
       rw [he'.es q _ (J4 hq)];exact(OV hshape hx (J4 hq)).symm
     . intro hr;obtain⟨n,f,hl',hn⟩:=he'.row hr;rw [hl']at hshape;obtain⟨n',f',hx,hn'⟩: ∃n' f',s'.az i m.ns=[.a n' m.es f']/\n'=n:=by
        generalize s'.az i m.ns=l1 at hshape
        match l1,hshape with
        |[.a n' es' f'],hsh=>
         simp [ar.shape]at hsh;exact⟨n',f',by rw [hsh.2],hsh.1⟩
       exact⟨n',f',hx,fun b' hb'=>by rw [hn'];exact hn b' hb'⟩
     . intro b' hb' _;rw [hb]at hb';simp only [J3]at hb';subst hb';obtain⟨cs0,e0,lo0,hi0,hh0,r1,r2,r3,r4,r5,r6⟩:=hl.body;rw [hh]at hh0;simp only [J3,Obj.cells.injEq,Q4]at hh0;obtain⟨rfl,rfl,rfl,rfl⟩:=hh0;exact⟨hl.low,hl.apart,cs',e,lo,hi,BA hh,by rw [hss];exact r1,r2,by rw [hss,hsz];exact r3,hrel,fun hr=>by rw [hss,hsz];exact r5 hr,fun hr=>by rw [hsz];exact r6 hr⟩
   . rw [hseg i _ hid];refine {st:=he'.st,es:=he'.es,row:=he'.row,plain:=he'.plain,there:=he'.there,nil:=he'.nil,live:= ?_,dn:=he'.dn};intro b' hb' hz';have hl':=he'.live b' hb' hz';have hne:b'≠b:=by
      rintro rfl;exact hid (h.inj i id m' m b' hm' hm hz' hz hb' hb)
     exact⟨hl'.low,hl'.apart,by rw [uI hne];exact hl'.body⟩
 . intro i hi;rw [hmt]at hi;exact h.fr i hi
 . intro i m' hi;rw [hmt]at hi;exact h.mY i m' hi
 . intro i i' m1 m2 b' h1 h2;rw [hmt]at h1 h2;exact h.inj i i' m1 m2 b' h1 h2
end
end Go.Sx
namespace Go.Sx
open Go Go.RowKit
variable [bW]
theorem qF {P:Program} {t:TypeId} {i:TypeInfo} (h:P.info? t=some i) (w:World):(typeInfo t).run P w= .ok i w:=by
 simp [typeInfo,h]
theorem aS {P:Program} {t:TypeId} {n:Nat} (h:cw P t=some n) (w:World):(sizeOf t).run P w= .ok n w:=by
 simp only [cw,Jp]at h;obtain⟨i,hi,rfl⟩:=h;simp [sizeOf,qF hi]
theorem nT {P:Program} {t:TypeId} {b:Bool} (h:bZ P t=some b) (w:World):(isAgg t).run P w= .ok b w:=by
 unfold bZ at h;unfold isAgg;split at h
 . rename_i hu;simp at h;subst h;simp [run_underlying hu]
 . rename_i hu;simp at h;subst h;simp [run_underlying hu]
 . rename_i d h1 h2 hu;simp at h;subst h;simp only [Sem.run_bind,run_underlying hu,Result.andThen_ok];cases d<;>first|rfl|exact(h1 _ rfl).elim|exact(h2 _ _ rfl).elim
 . cases h
theorem dU (b o i:Nat):(⟨b,o,none⟩:Addr).add i=⟨b,o+i,none⟩:=by
 unfold Addr.add;split
 . rename_i hz;simp [hz]
 . rfl
theorem ve (n:Nat) (f:Nat->Value) (j:Nat) (h:j<n):(Array.ofFn fun i:Fin n=>f i).getD j undef=f j:=by
 simp [Array.getD,h]
theorem cC (v:SV) (r:List ar):flat (.s v::r) 0=some v:=rfl
theorem cB (v:SV) (r:List ar) (k:Nat):flat (.s v::r) (k+1)=flat r k:=by
 show(if k+1<1 then _ else flat r (k+1-1))=_
 rw [if_neg (by omega)];rfl
theorem cy {n es:Nat} {f:Nat->List SV} {r:List ar} {k:Nat} (h:k<n*es):flat (.a n es f::r) k=(f (k/es))[k%es]?:=by
 have:flat (.a n es f::r) k=(ar.a n es f).at k:=if_pos h;rw [this];exact if_pos h
theorem gZ {n es:Nat} {f:Nat->List SV} {r:List ar} {k:Nat} (h: ¬k<n*es):flat (.a n es f::r) k=flat r (k-n*es):=if_neg h
section
variable {ro : RO} {own : Own} {v : Value}
theorem nX (h:Rel ro own .tt v):v= .bool true:=by cases h;rfl
theorem qD (h:Rel ro own .ff v):v= .bool false:=by cases h;rfl
theorem jJ {b:Bool} (h:Rel ro own (.bool b) v):v= .bool b:=by cases h;rfl
theorem aK {k:IntKind} {n:Int} (h:Rel ro own (.int k n) v):v= .int k n:=by cases h;rfl
theorem dR {x:List UInt8} (h:Rel ro own (.str x) v):v= .string ⟨x.toArray⟩:=by cases h;rfl
theorem gh (h:Rel ro own .aq v):v= .slice none 0 0:=by cases h;rfl
theorem cU {l:List ar} (h:Rel ro own (.agg l) v): ∃cs:Array Value,v= .agg cs/\cs.size=aa l/\ ∀(k:Nat) (sv:SV),flat l k=some sv->Rel ro own sv (cs.getD k undef):=by
 cases h;exact⟨_,rfl,by assumption,by assumption⟩
theorem jt {l:List SV} (h:Rel ro own (.bp l) v): ∃vs:Array Value,v= .tuple vs/\vs.size=l.length/\ ∀(i:Nat) (sv:SV),l[i]?=some sv->Rel ro own sv (vs.getD i undef):=by
 cases h;exact⟨_,rfl,by assumption,by assumption⟩
theorem rq {id q:Nat} (h:Rel ro own (.ptr id q) v): ∃b,own.env id 0=some (some b)/\v= .pointer (some ⟨b,own.st id q,none⟩):=by
 cases h;exact⟨_,by assumption,rfl⟩
theorem tI {id aD q i j:Nat} (h:Rel ro own (.su id aD q i j) v): ∃b,own.env id aD=some (some b)/\v= .pointer (some ⟨b,own.st id q+i*own.es id q+j,none⟩):=by
 cases h;exact⟨_,by assumption,rfl⟩
theorem fH {id aD off len:Nat} (h:Rel ro own (.sl id aD off len) v):(∃b,own.env id aD=some (some b)/\off+len<=own.cap id aD/\v= .slice (some ⟨b,off*own.es id 0,none⟩) len (own.cap id aD-off))\/
 (own.env id aD=some none/\len=0/\off=0/\v= .slice none 0 0):=by
 cases h
 . exact .inl ⟨_,by assumption,by assumption,rfl⟩
 . exact .inr ⟨by assumption,by assumption,by assumption,rfl⟩
theorem dE {es len:Nat} {f:Nat->List SV} (h:Rel ro own (.aI es len f) v):(len=0/\ ∃a cap,v= .slice a 0 cap)\/
 ∃(b k0 cap:Nat) (vs:Nat->Value),v= .slice (some ⟨b,k0,none⟩) len cap/\len<=cap/\(∀i,i<len->(f i).length=es)/\(∀k,k<len*es->ro b (k0+k)=some (vs k))/\(∀(i j:Nat) (sv:SV),i<len->(f i)[j]?=some sv->Rel ro Own.empty sv (vs (i*es+j))):=by
 cases h
 . exact .inl ⟨by assumption,_,_,rfl⟩
 . exact .inr ⟨_,_,_,_,rfl,by assumption,by assumption,by assumption,by assumption⟩
theorem wT {es len i j:Nat} {f:Nat->List SV} (h:Rel ro own (.rA es len f i j) v):
 ∃(b k0:Nat) (vs:Nat->Value),v= .pointer (some ⟨b,k0+i*es+j,none⟩)/\i<len/\(∀i,i<len->(f i).length=es)/\(∀k,k<len*es->ro b (k0+k)=some (vs k))/\(∀(i j:Nat) (sv:SV),i<len->(f i)[j]?=some sv->Rel ro Own.empty sv (vs (i*es+j))):=by
 cases h;exact⟨_,_,_,rfl,by assumption,by assumption,by assumption,by assumption⟩
theorem Hc {f:Nat} {a b:List SV} (h:Rel ro own (.fn f a b) v): ∃va vb:Array Value,v= .func (.func f) va vb/\aQ ro own a va.toList/\aQ ro own b vb.toList:=by
 cases h with
 |fn=>
  rename_i va vb ha h1 hb h2;refine⟨va,vb,rfl,aQ.IW (by simpa using ha) (fun i x hx=> ?_),aQ.IW (by simpa using hb) (fun i x hx=> ?_)⟩
  . simpa [Jf,J0]using h1 i x hx
  . simpa [Jf,J0]using h2 i x hx
end
section
variable {E : Env} {P : Program} {ro : RO} {own : Own} {s : St} {w : World} {a : Act}
theorem jv {c:Bool} {x y:SV} {v:Value} (hx:c=true->Rel ro own x v) (hy:c=false->Rel ro own y v):Rel ro own (dY c x y) v:=by
 cases c with
 |true=>
  have h:=hx rfl;cases x<;>cases y<;>simp only [dY,if_true]<;>first
   |exact .any _ _
   |exact h
   |(split<;>first|exact .any _ _|exact h|(cases h;constructor))
   |(cases h;exact .fe _ _ _ _ _ _ rfl)
   |(cases h;constructor)
 |false=>
  have h:=hy rfl;cases x<;>cases y<;>simp only [dY,Jr,if_false,Bool.not_false]<;>first
   |exact .any _ _
   |exact h
   |(split<;>first|exact .any _ _|(rename_i hk;subst hk;first|exact h|(cases h;constructor)))
   |(cases h;exact .fe _ _ _ _ _ _ rfl)
   |(cases h;constructor)
theorem m8 {c:Bool}: ∀{xs ys:List SV} {j:Nat} {z:SV},(af c xs ys)[j]?=some z-> ∃x y,xs[j]?=some x/\ys[j]?=some y/\z=dY c x y
 |x::r,y::r',0,z,h=>by simp [af]at h;exact⟨x,y,rfl,rfl,h.symm⟩
 |x::r,y::r',j+1,z,h=>by simp [af]at h;simpa using m8 h
 |[],_,_,_,h=>by simp [af]at h
 |_::_,[],_,_,h=>by simp [af]at h
theorem ES (h:bA E ro own s w a) {o:Oper} {x:Operand} (ho:o.op= .move x\/o.op= .assign x) {ws} (hk:(fR x (bm E.N o.dst)).ok s ws):fW E P o s w a ws:=by
 obtain⟨sv,hr,hk⟩:=aZ h hk;refine aP h (v:=a.eval x) ?_ hr hk;unfold execOp;rcases ho with ho|ho<;>simp only [ho]<;>rfl
theorem xj {x:SV} {v:Value} {b:Bool} (h:Rel ro own x v) (hb:Lz x=some b):v= .bool b:=by
 cases h<;>simp [Lz]at hb<;>simp [hb]
theorem OC (h:bA E ro own s w a) {o:Oper} {c x y:Operand} (ho:o.op= .pick c x y) {ws} (hk:(fR c fun c=>fR x fun x=>fR y fun y=>oF E.N o.dst (On c x y)).ok s ws):fW E P o s w a ws:=by
 obtain⟨c',hc,hk⟩:=aZ h hk;obtain⟨x',hx,hk⟩:=aZ h hk;obtain⟨y',hy,hk⟩:=aZ h hk;unfold oF at hk;split at hk
 case h_2=>exact hk.elim
 rename_i z hz;have key: ∃b,a.eval c= .bool b/\Rel ro own z (if b then a.eval x else a.eval y):=by
  unfold On at hz;split at hz
  . simp at hz;subst hz;exact⟨true,nX hc,by simpa using hx⟩
  . simp at hz;subst hz;exact⟨false,qD hc,by simpa using hy⟩
  . rename_i hc0 b hk0;simp at hz;subst hz;refine⟨_,jJ hc,jv (fun e=> ?_) (fun e=> ?_)⟩
    . rw [if_pos e];exact hx
    . rw [if_neg (by simp [e])];exact hy
  . cases hz
 obtain⟨b,hb,hz'⟩:=key;refine aP h (v:=if b then a.eval x else a.eval y) ?_ hz' hk;unfold execOp;simp [ho,hb,asBool]
theorem Gh (h:bA E ro own s w a) {o:Oper} {x:Operand} {i:Nat} (ho:o.op= .extract x i) {ws} (hk:(fR x (vv E.N o.dst i)).ok s ws):fW E P o s w a ws:=by
 obtain⟨x',hx,hk⟩:=aZ h hk;unfold vv at hk;split at hk
 case h_2=>exact hk.elim
 rename_i l;split at hk
 case h_2=>exact hk.elim
 rename_i z hz;obtain⟨vs,hv,hs,hh⟩:=jt hx;have hi:i<vs.size:=by rw [hs];exact(Jb.1 hz).1
 refine aP h (v:=vs.getD i undef) ?_ (hh i z hz) hk;unfold execOp;simp [ho,hv,Instr.extract,hi]
theorem Pa {N nid:Nat} {dst:Option Tmp} {row:Bool} {app:Option TypeId} {es:Nat} {l:List ar} {x:SV} {ws} (hk:(uf N nid dst row app es l x).ok s ws): ∃d,dst=some d/\d<N/\s (.mt nid)= .m none/\ws=lO nid row app es l++[(.tm d, .v x)]:=by
 unfold uf at hk;split at hk
 case h_2=>exact hk.elim
 rename_i d;split at hk
 case isFalse=>exact hk.elim
 obtain⟨hf,hk⟩:=kC hk;exact⟨d,rfl,by assumption,hf,hk.symm⟩
theorem qU (h:bA E ro own s w a) {o:Oper} {nid:Nat} {row:Bool} {app:Option TypeId} {es cap:Nat} {l:List ar} {x:SV} {v:Value} {cs:Array Value} {e:TypeId} {w':World} {lo hi:Nat}
 (hw:w'.heap=w.heap.push (.cells cs e (lo,hi))) (h1:w'.os=w.os) (h2:w'.tape=w.tape) (h3:w'.output=w.output)
 (hrun:(execOp a.eval o).run P w= .ok (.value v) w')
 (hrow:row=true-> ∃n f,l=[.a n es f]/\n<=cap/\cs.size=cap*es) (hpl:row=false->cs.size=aa l) (hsz:aa l<=cs.size) (hfz:hi<=lo\/aa l<=lo) (happ: ∀t,app=some t->lo=0/\hi=0/\e=t/\cap<=maxLen)
 (hrel: ∀k sv,flat l k=some sv->Rel ro own sv (cs.getD k undef))
 (hv: ∀own':Own,own'.env nid 0=some (some w.heap.size)->own'.cap nid 0=cap->own'.st nid 0=0->(own'.es nid 0=match l[0]? with|some x=>x.es|none=>0)->Rel ro own' x v)
 {ws} (hk:(uf E.N nid o.dst row app es l x).ok s ws):fW E P o s w a ws:=by
 obtain⟨d,hd,hlt,hf,rfl⟩:=Pa hk;obtain⟨own',hle,e1,e2,e3,e4,hs⟩:=h.push hf (row:=row) (es:=es) (cap:=cap) hw h1 h2 h3 app hrow hpl hsz hfz happ hrel;intro Q;unfold Oper.wp;rw [hrun];show dL E _ w' (a.put o.dst v)
 rw [hd,aM,kA];exact⟨ro,own',hs.put hlt (hv own' e1 e2 e3 e4)⟩
theorem snd_box (h:bA E ro own s w a) {o:Oper} {nid:Nat} {T:TypeId} {x:Operand} (ho:o.op= .box T x) {ws} (hk:(fR x (MG E.N nid o.dst)).ok s ws):fW E P o s w a ws:=by
 obtain⟨x',hx,hk⟩:=aZ h hk;unfold MG at hk;split at hk
 case h_2=>exact hk.elim
 rename_i l hl;have key:(a.eval x).cells.size=aa l/\ ∀k sv,flat l k=some sv->Rel ro own sv ((a.eval x).cells.getD k undef):=by
  unfold ln at hl;split at hl
  . rename_i l0;simp at hl;subst hl;obtain⟨cs,hv,hs,hh⟩:=cU hx;rw [hv];exact⟨hs,hh⟩
  . rename_i x0 hne;split at hl
    . rename_i h1;simp at hl;subst hl;rw [Bz (gk hx h1)];refine⟨rfl,fun k sv hk=> ?_⟩;cases k with
      |zero=>rw [cC]at hk;simp at hk;subst hk;simpa using hx
      |succ k=>rw [cB]at hk;cases hk
    . cases hl
 refine qU h (cap:=0) (v:= .pointer (some ⟨w.heap.size,0,none⟩)) (w':=w.alloc (.cells (a.eval x).cells T)) (lo:=0) (hi:=0) rfl rfl rfl rfl ?_ (by simp) (fun _=>key.1) (by rw [key.1];exact J1 _) (.inl (J1 _)) (by simp) key.2 ?_ hk
 . unfold execOp;simp [ho,Instr.box,newVar,newRow]
 . intro own' e1 _ e3 _;have:=Rel.ptr (ro:=ro) own' nid 0 w.heap.size e1
   rwa [e3]at this
theorem yT {v:SV} {c:Value} (h:(match v,c with
 | .int k n, .int k' n'=>k==k'&&n==n'
 | .ff, .bool b=> !b
 | .str [], .string s=>s.size==0
 | .aq, .slice none 0 0=>true
 | .km, .map none=>true
 | .lG, .pointer none=>true
 |_,_=>false)=true):Rel ro own v c:=by
 split at h
 . simp at h;obtain⟨rfl,rfl⟩:=h;constructor
 . simp at h;subst h;constructor
 . rename_i s0;simp at h;have:s0=⟨([]:List UInt8).toArray⟩:=h;rw [this];exact .str _ _
 . constructor
 . constructor
 . constructor
 . cases h
theorem wC : ∀{vs:List SV} {cs:List Value},jQ.spellsL vs cs=true->vs.length=cs.length/\ ∀(j:Nat) (sv:SV),vs[j]?=some sv->Rel ro own sv (cs.getD j undef)
 |[],[],_=>⟨rfl,by simp⟩
 |v::r,c::cs,h=>by
  simp only [jQ.spellsL,J2]at h;obtain⟨h1,h2⟩:=wC h.2;refine⟨by simp [h1],fun j sv hj=> ?_⟩;cases j with
  |zero=>simp at hj;subst hj;simpa using yT h.1
  |succ j=>simp at hj;simpa using h2 j sv hj
 |[],_::_,h=>by simp [jQ.spellsL]at h
 |_::_,[],h=>by simp [jQ.spellsL]at h
theorem te : ∀{l:List ar} {cs:List Value},jQ l cs=true->cs.length=aa l/\ ∀(k:Nat) (sv:SV),flat l k=some sv->Rel ro own sv (cs.getD k undef)
 |[],[],_=>⟨rfl,by simp [flat]⟩
 |[],_::_,h=>by simp [jQ]at h
 | .s v::r,[],h=>by simp [jQ]at h
 | .s v::r,c::cs,h=>by
  simp only [jQ,J2]at h;obtain⟨h1,h2⟩:=te h.2;refine⟨by simp [aa,ar.size,h1];omega,fun k sv hk=> ?_⟩;cases k with
  |zero=>rw [cC]at hk;simp at hk;subst hk;simpa using yT h.1
  |succ k=>rw [cB]at hk;simpa using h2 k sv hk
 | .a n es f::r,cs,h=>by
  simp only [jQ,J2,decide_eq_true_eq,Js,Kn]at h;obtain⟨⟨h0,hall⟩,hrest⟩:=h;obtain⟨h1,h2⟩:=te hrest;have hlen:cs.length=n*es+aa r:=by rw [Xd]at h1;omega
  refine⟨by simp [aa,ar.size,hlen],fun k sv hk=> ?_⟩
  by_cases hlt:k<n*es
  . rw [cy hlt]at hk;have hes:0<es:=by
     rcases Jw es with h0|h0
     . subst h0;simp at hlt
     . exact h0
    have hi:k/es<n:=by rw [K9 hes];exact hlt
    obtain⟨e1,e2⟩:=wC (ro:=ro) (own:=own) (hall (k/es) hi);have:=e2 (k%es) sv hk;have hmod:k%es<es:=Ki _ hes;have hk':k/es*es+k%es=k:=by rw [Km];exact Q5 k es
    have e3:((cs.drop (k/es*es)).take es).getD (k%es) undef=cs.getD k undef:=by
     simp only [J0,Q6,hmod,if_true,Qg,hk']
    rwa [e3]at this
  . rw [gZ hlt]at hk;have:=h2 (k-n*es) sv hk;have e3:(cs.drop (n*es)).getD (k-n*es) undef=cs.getD k undef:=by
     simp only [J0,Qg];rw [show n*es+(k-n*es)=k from by omega]
    rwa [e3]at this
theorem nF {T:TypeId} {l:List ar} {z:Value} (h:zeroOf P T=some (l,z)):(∀w:World,(zeroValue T).run P w= .ok z w)/\z.cells.size=aa l/\ ∀(k:Nat) (sv:SV),flat l k=some sv->Rel ro own sv (z.cells.getD k undef):=by
 unfold zeroOf at h;split at h
 case h_2=>cases h
 rename_i l0 z0 _ hz;split at h
 case isFalse=>cases h
 rename_i hs;simp at h;obtain⟨rfl,rfl⟩:=h;obtain⟨h1,h2⟩:=te (ro:=ro) (own:=own) hs;simp only [Xe]at hz;obtain⟨i,hi,hz⟩:=hz;refine⟨fun w=>by simp [zeroValue,qF hi,hz],by simpa using h1,fun k sv hk=> ?_⟩;have:=h2 k sv hk;simpa [Jf,J0]using this
theorem KX (h:bA E ro own s w a) {o:Oper} {nid:Nat} {T:TypeId} (ho:o.op= .alloc T) {ws} (hk:(CX P E.N nid o.dst T).ok s ws):fW E P o s w a ws:=by
 unfold CX at hk;split at hk
 case h_2=>exact hk.elim
 rename_i l z hz;obtain⟨hr,hs,hh⟩:=nF (ro:=ro) (own:=own) hz;refine qU h (cap:=0) (v:= .pointer (some ⟨w.heap.size,0,none⟩)) (w':=w.alloc (.cells z.cells T)) (lo:=0) (hi:=0) rfl rfl rfl rfl ?_ (by simp) (fun _=>hs) (by rw [hs];exact J1 _) (.inl (J1 _)) (by simp) hh ?_ hk
 . unfold execOp;simp [ho,Instr.alloc,hr,newVar,newRow]
 . intro own' e1 _ e3 _;have:=Rel.ptr (ro:=ro) own' nid 0 w.heap.size e1
   rwa [e3]at this
end
end Go.Sx
namespace Go.Sx
open Go Go.RowKit
variable [bW]
theorem lj (l:List SV): ∀k,flat (l.map .s) k=l[k]?:=by
 induction l with
 |nil=>intro k;rfl
 |cons v r ih=>
  intro k;cases k with
  |zero=>rfl
  |succ k=>rw [J8,cB,ih];rfl
theorem fY (l:List SV):aa (l.map .s)=l.length:=by
 induction l with
 |nil=>rfl
 |cons v r ih=>simp only [J8,aa,ih,ar.size,Jc];omega
theorem AZ (l:List ar) (q k:Nat):flat l (aa (l.take q)+k)=flat (l.drop q) k:=by
 conv=>lhs;rw [<-List.take_append_drop q l]
 rw [jw,Xb,if_neg (by omega)]
 congr 1;omega
theorem rM (l:List ar) (q:Nat):aa (l.take q)+aa (l.drop q)=aa l:=by
 rw [<-cu,Xb]
theorem gW : ∀{l:List ar} {n:Nat} {l':List ar},jL l n=some l'->aa l'=n/\n<=aa l/\(∀k,k<n->flat l' k=flat l k)
 |_,0,l',h=>by simp [jL]at h;subst h;exact⟨rfl,by omega,by intro k hk;omega⟩
 |x::r,m+1,l',h=>by
  simp only [jL]at h;split at h
  case isFalse=>cases h
  rename_i hc;simp only [Jp]at h;obtain⟨l2,h2,rfl⟩:=h;obtain⟨e1,e2,e3⟩:=gW h2;refine⟨by simp only [aa,e1];omega,by simp only [aa];omega,fun k hk=> ?_⟩;simp only [flat]
  by_cases hlt:k<x.size
  . simp only [hlt,if_true]
  . simp only [hlt,if_false];exact e3 _ (by omega)
 |[],_+1,_,h=>by simp [jL]at h
theorem jo : ∀{l:List ar} {n:Nat} {l':List ar},kT l n=some l'->aa l'+n=aa l/\(∀k,flat l' k=flat l (n+k))
 |l,0,l',h=>by simp [kT]at h;subst h;exact⟨by omega,fun k=>by simp⟩
 |x::r,m+1,l',h=>by
  simp only [kT]at h;split at h
  case isFalse=>cases h
  rename_i hc;obtain⟨e1,e3⟩:=jo h;refine⟨by simp only [aa];omega,fun k=> ?_⟩;rw [e3];simp only [flat];rw [if_neg (by omega)]
  congr 1;omega
 |[],_+1,_,h=>by simp [kT]at h
theorem St.BL (s:St) (id n q:Nat):(List.range' q (n-q)).map (s.uC id)=(s.az id n).drop q:=by
 simp only [St.az];rw [<-List.map_drop,List.range_eq_range',List.drop_range']
 congr 2;omega
section
variable {E : Env} {P : Program} {ro : RO} {own : Own} {s : St} {w : World} {a : Act}
theorem jN {T:TypeId} (hT:bZ P T=some false) {A:Addr} {v:Value} (hc:w.cell? A=some v):(loadVar T A).run P w= .ok v w:=by
 simp [loadVar,nT hT,hc]
theorem jP {T:TypeId} {n:Nat} (hT:bZ P T=some true) (hn:cw P T=some n) {b off:Nat} {vs:Nat->Value} (hc: ∀j,j<n->w.cell? ⟨b,off+j,none⟩=some (vs j)):
 (loadVar T ⟨b,off,none⟩).run P w= .ok (.agg (Array.ofFn fun j:Fin n=>vs j)) w:=by
 simp [loadVar,nT hT,aS hn,zx hc]
theorem rb {T:TypeId} {n:Nat} {agg:Bool} (hT:bZ P T=some agg) (hn:cw P T=some n) {b off:Nat} {l:List SV} {j:Nat} {x:SV} (hx:oo agg n l j=some x)
 (hc: ∀(k:Nat) (sv:SV),l[k]?=some sv-> ∃v,w.cell? ⟨b,off+k,none⟩=some v/\Rel ro own sv v): ∃v,(loadVar T ⟨b,off+j,none⟩).run P w= .ok v w/\Rel ro own x v:=by
 unfold oo at hx;cases agg with
 |true=>
  simp only [if_true]at hx;split at hx
  case isFalse=>cases hx
  rename_i hle;simp only [J3]at hx;subst hx;have hget: ∀k,k<n-> ∃sv,l[j+k]?=some sv:=fun k hk=>⟨_,J4 (by omega)⟩
  refine⟨_,jP hT hn (vs:=fun k=>(w.cell? ⟨b,off+j+k,none⟩).getD undef) fun k hk=> ?_,?_⟩
  . obtain⟨sv,hsv⟩:=hget k hk;obtain⟨v,hv,_⟩:=hc (j+k) sv hsv;rw [show off+j+k=off+(j+k)from by omega,hv];rfl
  . refine .agg _ _ _ ?_ fun k sv hk=> ?_
    . rw [fY];simp;omega
    . rw [lj]at hk;have hkn:k<n:=by
       have:=(Jb.1 hk).1;simp at this;omega
      have hk':l[j+k]?=some sv:=by
       rw [Q6,if_pos hkn,Qg]at hk;exact hk
      obtain⟨v,hv,hr⟩:=hc (j+k) sv hk';rw [ve n (fun k=>(w.cell? ⟨b,off+j+k,none⟩).getD undef) k hkn];rw [show off+j+k=off+(j+k)from by omega,hv];exact hr
 |false=>
  simp only [Jr,if_false]at hx;split at hx
  case isFalse=>cases hx
  obtain⟨v,hv,hr⟩:=hc j x hx;exact⟨v,jN hT hv,hr⟩
theorem l6 (h:bA E ro own s w a) {o:Oper} {T:TypeId} {x:Operand} (ho:o.op= .load T x) {A:Addr} {v:Value} {y:SV} (hx:a.eval x= .pointer (some A)) (hrun:(loadVar T A).run P w= .ok v w) (hr:Rel ro own y v)
 {ws} (hk:(bm E.N o.dst y).ok s ws):fW E P o s w a ws:=by
 refine aP h (v:=v) ?_ hr hk;unfold execOp;simp [ho,hx,Instr.loadAt,Instr.sureAddr,hrun]
theorem M6 (h:bA E ro own s w a) {o:Oper} {T:TypeId} {x:Operand} (ho:o.op= .load T x) {ws} (hk:(fR x (x6 P E.N o.dst T)).ok s ws):fW E P o s w a ws:=by
 obtain⟨x',hx,hk⟩:=aZ h hk;unfold x6 at hk;split at hk
 case h_2=>exact hk.elim
 rename_i agg n hT hn;split at hk
 ·
  rename_i id q;obtain⟨b,hb,hv⟩:=rq hx;obtain⟨m,hm,hk⟩:=fG hk;have he:=h.gK id m hm;split at hk
  . exact hk.elim
  rename_i hrow;have hrow:m.row=false:=by simpa using hrow
  obtain⟨hver,hsh⟩:=he.plain hrow;have hb':own.env id m.aD=some (some b):=by rw [hver];exact hb
  cases agg with
  |true=>
   simp only [if_true]at hk;split at hk
   case isFalse=>exact hk.elim
   rename_i hq;have hk:=vg hk;rw [St.BL]at hk;split at hk
   case h_2=>exact hk.elim
   rename_i l' hl';obtain⟨e1,e2,e3⟩:=gW hl';have hst:=he.st q hq;have hcell: ∀k,k<n-> ∃v,w.cell? ⟨b,own.st id q+k,none⟩=some v/\ ∀sv,flat l' k=some sv->Rel ro own sv v:=by
    intro k hkn;obtain⟨v,hv,hr⟩:=h.DR hm hb' (k:=own.st id q+k) (by have:=rM (s.az id m.ns) q;omega);exact⟨v,hv,fun sv hs=>hr sv (by rw [hst,AZ,<-e3 k hkn];exact hs)⟩
   refine l6 h ho hv (jP hT hn (vs:=fun k=>(w.cell? ⟨b,own.st id q+k,none⟩).getD undef) fun k hkn=> ?_) (y:= .agg l') ?_ hk
   . obtain⟨v,hv,_⟩:=hcell k hkn;rw [hv];rfl
   . refine .agg _ _ _ (by simp [e1]) fun k sv hs=> ?_
     have hkn:k<n:=by rw [<-e1];exact cK hs
     obtain⟨v,hv,hr⟩:=hcell k hkn;rw [ve n (fun k=>(w.cell? ⟨b,own.st id q+k,none⟩).getD undef) k hkn];simp only [hv];exact hr sv hs
  |false=>
   simp only [Jr,if_false]at hk;obtain⟨y,hy,hk⟩:=lf hk;split at hk
   case h_2=>exact hk.elim
   rename_i u;split at hk
   case isFalse=>exact hk.elim
   rename_i hq;have hseg:(s.az id m.ns)[q]?=some (.s u):=by rw [St.bL _ _ _ _ hq,hy]
   have hf:=tO hseg 0 (by simp [ar.size]);rw [<-he.st q hq]at hf;obtain⟨v,hc,hr⟩:=h.cell hm hb' hf;exact l6 h ho hv (jN hT hc) hr hk
 ·
  rename_i id aD q i j;obtain⟨b,hb,hv⟩:=tI hx;obtain⟨m,hm,hk⟩:=fG hk;have he:=h.gK id m hm;split at hk
  case isFalse=>exact hk.elim
  rename_i hvq;obtain⟨hver,hq⟩:=hvq;rw [<-hver]at hb;obtain⟨y,hy,hk⟩:=lf hk;split at hk
  case h_2=>exact hk.elim
  rename_i k es f;obtain⟨hi,hk⟩:=hk;split at hk
  case isFalse=>exact hk.elim
  rename_i hlen;split at hk
  case h_2=>exact hk.elim
  rename_i z hz;have hseg:(s.az id m.ns)[q]?=some (.a k es f):=by rw [St.bL _ _ _ _ hq,hy]
  have hes:own.es id q=es:=by rw [he.es q _ hseg];rfl
  obtain⟨v,hrun,hr⟩:=rb (ro:=ro) (own:=own) (w:=w) hT hn (b:=b) (off:=own.st id q+i*es) hz (fun k' sv hsv=>by
   have hk':k'<es:=by rw [<-hlen];exact(Jb.1 hsv).1
   have hin:i*es+k'<(ar.a k es f).size:=by
    simp only [ar.size];have:(i+1)*es<=k*es:=Jl _ hi;rw [Ji]at this;omega
   have hf:=tO hseg (i*es+k') hin;rw [lM hi hk',hsv,<-he.st q hq]at hf;obtain⟨v,hv,hr⟩:=h.cell hm hb hf;exact⟨v,by rw [Kt];exact hv,hr⟩)
  rw [hes]at hv;exact l6 h ho hv hrun hr hk
 ·
  rename_i es len f i j;obtain⟨b,k0,vs,hv,hi,hl,hm,hh⟩:=wT hx;split at hk
  case isFalse=>exact hk.elim
  rename_i hlen;split at hk
  case h_2=>exact hk.elim
  rename_i z hz;obtain⟨v,hrun,hr⟩:=rb (ro:=ro) (own:=own) (w:=w) hT hn (b:=b) (off:=k0+i*es) hz (fun k' sv hsv=>by
   have hk':k'<es:=by rw [<-hlen];exact(Jb.1 hsv).1
   have hin:i*es+k'<len*es:=by
    have:(i+1)*es<=len*es:=Jl _ hi;rw [Ji]at this;omega
   exact⟨vs (i*es+k'),by rw [Kt];exact(h.cJ _ _ _ (hm _ hin)).1,(hh i k' sv hi hsv).own (Own.empty_le _)⟩)
  exact l6 h ho hv hrun hr hk
 . exact hk.elim
theorem td : ∀{l:List ar} {k:Tx} {ws},(wM l k).ok s ws->(∀n es f,ar.a n es f∈l-> ∀i,i<n->mF es (f i)=true)/\k.ok s ws
 |[],_,_,h=>⟨by simp,h⟩
 | .s v::r,_,_,h=>by
  obtain⟨h1,h2⟩:=td (l:=r) h;exact⟨fun n es f hm=>h1 n es f (by simpa using hm),h2⟩
 | .a n es f::r,_,_,h=>by
  obtain⟨h1,h2⟩:=td (l:=r) h.2;refine⟨fun n' es' f' hm=> ?_,h2⟩;simp only [Kd,ar.a.injEq]at hm;rcases hm with⟨rfl,rfl,rfl⟩|hm
  . exact h.1
  . exact h1 n' es' f' hm
theorem xS : ∀{l:List ar},lC l=true->(∀n es f,ar.a n es f∈l-> ∀i,i<n->mF es (f i)=true)-> ∀k,k<aa l-> ∃sv,flat l k=some sv/\ib sv=true
 |[],_,_,k,hk=>by simp [aa]at hk
 | .s v::r,h1,h2,k,hk=>by
  simp only [lC,J2]at h1;cases k with
  |zero=>exact⟨v,cC v r,h1.1⟩
  |succ k=>
   obtain⟨sv,e1,e2⟩:=xS (l:=r) h1.2 (fun n es f hm=>h2 n es f (by simp [hm])) k (by simp only [aa,ar.size]at hk;omega);exact⟨sv,by rw [cB];exact e1,e2⟩
 | .a n es f::r,h1,h2,k,hk=>by
  by_cases hlt:k<n*es
  . have hes:0<es:=by
     rcases Jw es with h0|h0
     . subst h0;simp at hlt
     . exact h0
    have hi:k/es<n:=by rw [K9 hes];exact hlt
    have hr:=h2 n es f (by simp) (k/es) hi;simp only [mF,J2,beq_iff_eq,Js]at hr;have hlt2:k%es<(f (k/es)).length:=by rw [hr.1];exact Ki _ hes
    exact⟨_,by rw [cy hlt];exact J4 hlt2,hr.2 _ (Ku hlt2)⟩
  . obtain⟨sv,e1,e2⟩:=xS (l:=r) h1 (fun n es f hm=>h2 n es f (by simp [hm])) (k-n*es) (by simp only [aa,ar.size]at hk;omega);exact⟨sv,by rw [gZ hlt];exact e1,e2⟩
theorem mX (s:St) (id q ns:Nat) (l:List ar) (hq:q+l.length<=ns):(s.apply (bs id q l)).az id ns=(s.az id ns).take q++l++(s.az id ns).drop (q+l.length):=by
 apply Xc;intro i
 by_cases hi:i<ns
 . rw [St.bL _ _ _ _ hi,St.jY]
   by_cases h1:i<q
   . rw [if_neg (by omega),Jq,Ka (by simp [St.aU];omega),Q6,if_pos h1,St.bL _ _ _ _ hi]
   . rw [if_pos (by omega)]
     by_cases h2:i<q+l.length
     . rw [Jq,Jy (by simp [St.aU];omega),Ka (by simp [St.aU];omega)];have e:i-((s.az id ns).take q).length=i-q:=by simp [St.aU];omega
       rw [e,J4 (by omega)];simp
     . rw [Jy (by simp [St.aU];omega),Qg];have e:q+l.length+(i-((s.az id ns).take q++l).length)=i:=by simp [St.aU];omega
       rw [e,St.bL _ _ _ _ hi,J7 (by omega)];simp
 . rw [J7 (by simp [St.aU];omega),J7 (by simp [St.aU];omega)]
theorem tT {T:TypeId} {n:Nat} (hn:cw P T=some n) {b off:Nat} {cs:Array Value} {e:TypeId} {lo hi:Nat} (hh:w.heap[b]?=some (.cells cs e (lo,hi))) {v:Value} (hv:v.cells.size=n)
 (h1: ∀u∈v.cells.toList,u.oneCell'=true) (hle:off+n<=cs.size) (hfz:hi<=lo\/off+n<=lo):(storeVar T ⟨b,off,none⟩ v).run P w= .ok () (gO w b (dw cs off v.cells.toList) e lo hi):=by
 simp only [storeVar,Sem.run_bind,aS hn,Result.andThen_ok,hv];simp only [ne_eq,not_true_eq_false,if_false];rw [qI v.cells.toList 0 w cs hh h1 (by simp [hv];omega) (by simp [hv];omega)];rfl
theorem nG {o:Oper} {T:TypeId} {x y:Operand} (ho:o.op= .store T x y) (hd:o.dst=none) {A:Addr} {w':World} (hx:a.eval x= .pointer (some A)) (hrun:(storeVar T A (a.eval y)).run P w= .ok () w')
 {ws} (hs:dL E (s.apply ws) w' a):fW E P o s w a ws:=by
 intro Q;unfold Oper.wp;have:(execOp a.eval o).run P w= .ok .skip w':=by
  unfold execOp;simp [ho,hx,Instr.storeAt,Instr.sureAddr,hrun]
 rw [this];show dL E _ w' (a.put o.dst undef)
 rw [hd];exact hs
end
end Go.Sx
namespace Go.Sx
open Go Go.RowKit
variable [bW]
theorem qo : ∀{l:List ar} {q off q':Nat},qt (l.map ar.shape) q off=some q'-> ∃d,q'=q+d/\d<=l.length/\aa (l.take d)=off
 |l,q,0,q',h=>by simp [qt]at h;exact⟨0,by omega,by omega,by simp [aa]⟩
 | .s v::r,q,off+1,q',h=>by
  simp only [J8,ar.shape,qt]at h;obtain⟨d,e1,e2,e3⟩:=qo h;exact⟨d+1,by omega,by simp;omega,by simp [aa,ar.size,e3];omega⟩
 | .a n es f::r,q,off+1,q',h=>by
  simp only [J8,ar.shape,qt]at h;split at h
  case isFalse=>cases h
  rename_i hc;obtain⟨d,e1,e2,e3⟩:=qo h;exact⟨d+1,by omega,by simp;omega,by simp [aa,ar.size,e3];omega⟩
 |[],_,_+1,_,h=>by simp [qt]at h
theorem zH {P:Program} {w:World} {f:Field} {n:Nat} (hn:cw P f.type=some (n+1)) (b off:Nat):(fieldPlace ⟨b,off,none⟩ f).run P w= .ok ⟨b,off+f.offset,none⟩ w:=by
 simp [fieldPlace,aS hn,dU]
section
variable {E : Env} {P : Program} {ro : RO} {own : Own} {s : St} {w : World} {a : Act}
theorem ji {l1 l2 l3:List ar} (k:Nat) (A:Nat) (hA:aa l1=A):flat (l1++l2++l3) k=if k<A then flat l1 k else if k<A+aa l2 then flat l2 (k-A)else flat l3 (k-(A+aa l2)):=by
 subst hA;rw [jw,jw,cu]
 by_cases h1:k<aa l1
 . rw [if_pos (by omega),if_pos h1,if_pos h1]
 . by_cases h2:k<aa l1+aa l2
   . rw [if_pos h2,if_neg h1,if_neg h1,if_pos h2]
   . rw [if_neg h2,if_neg h1,if_neg h2]
theorem vu {x:SV} {l:List ar} {v:Value} (hx:Rel ro own x v) (hl:ln x=some l):v.cells.size=aa l/\ ∀(k:Nat) (sv:SV),flat l k=some sv->Rel ro own sv (v.cells.getD k undef):=by
 unfold ln at hl;split at hl
 . simp at hl;subst hl;obtain⟨cs,hv,hs,hh⟩:=cU hx;rw [hv];exact⟨hs,hh⟩
 . split at hl
   . rename_i h1;simp at hl;subst hl;rw [Bz (gk hx h1)];refine⟨rfl,fun k sv hk=> ?_⟩;cases k with
     |zero=>rw [cC]at hk;simp at hk;subst hk;simpa using hx
     |succ k=>rw [cB]at hk;cases hk
   . cases hl
theorem jk : ∀{l:List ar} {cs:List SV},aV l=some cs->l=cs.map .s
 |[],cs,h=>by simp [aV]at h;subst h;rfl
 | .s v::r,cs,h=>by
  simp only [aV,Jp]at h;obtain⟨c',h',rfl⟩:=h;rw [jk h'];rfl
 | .a _ _ _::r,cs,h=>by simp [aV]at h
theorem xT {x:SV} {cs:List SV} {v:Value} (hx:Rel ro own x v) (hl:ny x=some cs):v.cells.size=cs.length/\ ∀(k:Nat) (sv:SV),cs[k]?=some sv->Rel ro own sv (v.cells.getD k undef):=by
 have key:ln x=some (cs.map .s):=by
  cases x
  case agg l=>exact congrArg some (jk hl)
  all_goals first
   |(simp only [ny,ib,if_true,J3]at hl;subst hl;rfl)
   |(simp [ny,ib]at hl)
 obtain⟨e1,e2⟩:=vu hx key;exact⟨by rw [e1,fY],fun k sv hk=>e2 k sv (by rw [lj];exact hk)⟩
theorem rO {v:Value} (h: ∀k,k<v.cells.size->(v.cells.getD k undef).oneCell'=true): ∀u∈v.cells.toList,u.oneCell'=true:=by
 intro u hu;obtain⟨k,hk,rfl⟩:=List.getElem_of_mem hu;have:=h k (by simpa using hk);simpa [Jf,show k<v.cells.size by simpa using hk]using this
theorem mc (cs:Array Value) (k:Nat):cs.toList.getD k undef=cs.getD k undef:=by
 simp [Jf,J0]
theorem UG (h:bA E ro own s w a) {o:Oper} {T:TypeId} {x y:Operand} (ho:o.op= .store T x y) (hd:o.dst=none) {ws} (hk:(fR x fun x=>fR y fun y=>BU P T x y).ok s ws):fW E P o s w a ws:=by
 obtain⟨x',hx,hk1⟩:=aZ h hk;clear hk;obtain⟨y',hy,hk⟩:=aZ h hk1;clear hk1;unfold BU at hk;split at hk
 case h_2=>exact hk.elim
 rename_i n hn;split at hk
 . rename_i id q;obtain⟨b,hb,hv⟩:=rq hx;obtain⟨m,hm,hk⟩:=fG hk;have he:=h.gK id m hm;split at hk
   . exact hk.elim
   rename_i hrf;have hrow:m.row=false:=by cases hr:m.row<;>simp [hr]at hrf⊢
   have hz:m.gN=false:=by cases hr:m.gN<;>simp [hr]at hrf⊢
   obtain⟨hver,hsh⟩:=he.plain hrow;have hb':own.env id m.aD=some (some b):=by rw [hver];exact hb
   split at hk
   case h_2=>exact hk.elim
   rename_i l hl;split at hk
   case isFalse=>exact hk.elim
   rename_i hc;obtain⟨hc1,hc2,hc3,hc4⟩:=hc;obtain⟨harr,hk⟩:=td hk;have hws:ws=bs id q l:=hk.symm;subst hws;obtain⟨hsz,hrel⟩:=vu hy hl;obtain⟨cs,e,lo,hi,hh,r1,r2,r3,r4,r5,r6⟩:=(he.live b hb' hz).body;have hlen:=St.aU s id m.ns;have hshl:(((s.az id m.ns).drop q).take l.length).map ar.shape=l.map ar.shape:=by
    rw [hsh]at hc3;rw [List.map_take,List.map_drop];exact hc3
   have hmid:aa (((s.az id m.ns).drop q).take l.length)=aa l:=sE hshl;have hst:own.st id q=aa ((s.az id m.ns).take q)\/l=[]:=by
    rcases Kv q m.ns with h1|h1
    . exact .inl (he.st q h1)
    . refine .inr ?_
      match l,hc2 with
      |[],_=>rfl
      |_::_,hc2=>simp at hc2;omega
   have hsplit:s.az id m.ns=(s.az id m.ns).take q++((s.az id m.ns).drop q).take l.length++(s.az id m.ns).drop (q+l.length):=by
    conv=>lhs;rw [<-List.take_append_drop q (s.az id m.ns),<-List.take_append_drop l.length ((s.az id m.ns).drop q)]
    rw [List.drop_drop,Jq]
   have htot:aa (s.az id m.ns)=aa ((s.az id m.ns).take q)+aa l+aa ((s.az id m.ns).drop (q+l.length)):=by
    conv=>lhs;rw [hsplit]
    rw [cu,cu,hmid]
   rcases hst with hst|rfl
   case inr=>
    have h0:(a.eval y).cells.size=0:=by rw [hsz];rfl
    have hn0:n=0:=by rw [<-hc1];rfl
    have hrun:(storeVar T ⟨b,own.st id q,none⟩ (a.eval y)).run P w= .ok () w:=by
     simp only [storeVar,Sem.run_bind,aS hn,Result.andThen_ok,h0,hn0];have:(a.eval y).cells.toList=[]:=by simpa using h0
     simp [this,storeCells]
    exact nG ho hd hv hrun ⟨ro,own,h⟩
   have hrun:=tT (w:=w) hn (b:=b) (off:=own.st id q) hh (v:=a.eval y) (by rw [hsz,hc1]) (rO fun k hk=>by
    obtain⟨sv,e1,e2⟩:=xS hc4 harr k (by rw [<-hsz];exact hk);exact gk (hrel k sv e1) e2) (by rw [hst];omega) (by rw [hst];omega)
   refine nG ho hd hv hrun ⟨ro,own,h.U3 hm hz hb' hh (jn _ _ _) (fun loc hloc=>bc _ _ _ _ _ hloc) ?_ ?_⟩
   . rw [mX _ _ _ _ _ hc2]
     conv=>rhs;rw [hsplit]
     simp only [Qx,hshl]
   . intro k sv hk;rw [mX _ _ _ _ _ hc2,ji k _ rfl]at hk;have hflat:flat (s.az id m.ns) k=if k<aa ((s.az id m.ns).take q)then flat ((s.az id m.ns).take q) k else if k<aa ((s.az id m.ns).take q)+aa l then flat (((s.az id m.ns).drop q).take l.length) (k-aa ((s.az id m.ns).take q))else flat ((s.az id m.ns).drop (q+l.length)) (k-(aa ((s.az id m.ns).take q)+aa l)):=by
      conv=>lhs;rw [hsplit]
      rw [ji k _ rfl,hmid]
     have hvl:(a.eval y).cells.toList.length=aa l:=by simpa using hsz
     rw [jl _ _ _ _ (by rw [hvl,hst];omega),hst,hvl,mc]
     by_cases k1:k<aa ((s.az id m.ns).take q)
     . rw [if_neg (by omega)];rw [if_pos k1]at hk hflat;exact r4 k sv (by rw [hflat];exact hk)
     . rw [if_neg k1]at hk hflat
       by_cases k2:k<aa ((s.az id m.ns).take q)+aa l
       . rw [if_pos (by omega)];rw [if_pos k2]at hk;exact hrel _ sv hk
       . rw [if_neg (by omega)];rw [if_neg k2]at hk hflat;exact r4 k sv (by rw [hflat];exact hk)
 . rename_i id aD q i j;obtain⟨b,hb,hv⟩:=tI hx;obtain⟨m,hm,hk⟩:=fG hk;have he:=h.gK id m hm;split at hk
   case isFalse=>exact hk.elim
   rename_i hvq;obtain⟨hver,hq,hz⟩:=hvq;rw [<-hver]at hb;obtain⟨y2,hy2,hk⟩:=lf hk;split at hk
   case h_2=>exact hk.elim
   rename_i k es f;split at hk
   case h_2=>exact hk.elim
   rename_i vs hvs;obtain⟨hi,hk⟩:=hk;split at hk
   case isFalse=>exact hk.elim
   rename_i hc;obtain⟨hc1,hc2,hc3,hc4⟩:=hc;have hws:ws=[(.sg id q, .s (.a k es fun i'=>af (decide (i'=i)) (cE (f i) j vs) (f i')))]:=hk.symm;subst hws;obtain⟨hsz,hrel⟩:=xT hy hvs;obtain⟨cs,e,lo,hi',hh,r1,r2,r3,r4,r5,r6⟩:=(he.live b hb hz).body;have hseg:(s.az id m.ns)[q]?=some (.a k es f):=by rw [St.bL _ _ _ _ hq,hy2]
   have hes:own.es id q=es:=by rw [he.es q _ hseg];rfl
   have hst:=he.st q hq;have hsle:=US hseg;simp only [ar.size]at hsle;have hik:i*es+es<=k*es:=by
    have:(i+1)*es<=k*es:=Jl _ hi;rw [Ji]at this;omega
   rw [hes]at hv;have hrun:=tT (w:=w) hn (b:=b) (off:=own.st id q+i*es+j) hh (v:=a.eval y) (by rw [hsz,hc3]) (rO fun k hk=>by
    have hk':k<vs.length:=by rw [<-hsz];exact hk
    simp only [Js]at hc4;exact gk (hrel k _ (J4 hk')) (hc4 _ (Ku hk'))) (by rw [hst];omega) (by rw [hst];omega)
   have hset:(s.apply [(.sg id q, .s (.a k es fun i'=>af (decide (i'=i)) (cE (f i) j vs) (f i')))]).az id m.ns=(s.az id m.ns).set q (.a k es fun i'=>af (decide (i'=i)) (cE (f i) j vs) (f i')):=by
    apply Xc;intro t
    by_cases ht:t<m.ns
    . rw [St.bL _ _ _ _ ht,K6]
      by_cases htq:q=t
      . subst htq;simp [St.aU,ht,St.uC,St.apply,St.put]
      . rw [if_neg htq,St.bL _ _ _ _ ht];simp [St.uC,St.apply,St.put,Yv htq]
    . rw [J7 (by simp [St.aU];omega),J7 (by simp [St.aU];omega)]
   have hsl:(cE (f i) j vs).length=es:=by simp [cE];omega
   refine nG ho hd hv hrun ⟨ro,own,h.U3 hm hz hb hh (jn _ _ _) (fun loc hloc=>by simp [St.apply,St.put,hloc q]) ?_ ?_⟩
   . rw [hset];apply Xc;intro t;simp only [J5,K6]
     by_cases htq:q=t
     . subst htq;rw [if_pos rfl,hseg];simp [St.aU,hq,ar.shape]
     . rw [if_neg htq]
   . intro t sv ht;rw [hset,Po (y:= .a k es fun i'=>af (decide (i'=i)) (cE (f i) j vs) (f i')) hseg rfl]at ht;have hvl:(a.eval y).cells.toList.length=vs.length:=by simpa using hsz
     rw [jl _ _ _ _ (by rw [hvl,hst];omega),hvl,mc,hst]
     by_cases h1:aa ((s.az id m.ns).take q)<=t/\t<aa ((s.az id m.ns).take q)+(ar.a k es f).size
     . rw [if_pos h1]at ht;obtain⟨h1a,h1b⟩:=h1;simp only [ar.size]at h1b;obtain⟨u,rfl⟩: ∃u,t=aa ((s.az id m.ns).take q)+u:=⟨t-aa ((s.az id m.ns).take q),by omega⟩;rw [show aa ((s.az id m.ns).take q)+u-aa ((s.az id m.ns).take q)=u from by omega]at ht;have hu:u<k*es:=by omega
       have hes0:0<es:=by
        rcases Jw es with h0|h0
        . subst h0;simp at hu
        . exact h0
       have hdm:u/es*es+u%es=u:=by rw [Km];exact Q5 u es
       have hmod:u%es<es:=Ki _ hes0;simp only [ar.at,hu,if_true]at ht;obtain⟨x1,y1,hx1,hy1,rfl⟩:=m8 ht;have hold:flat (s.az id m.ns) (aa ((s.az id m.ns).take q)+u)=(f (u/es))[u%es]?:=by
        rw [tO hseg u (by simp only [ar.size];exact hu)];simp only [ar.at,hu,if_true]
       by_cases hin:u/es=i
       ·
        rw [hin]at hdm hy1 hold
        by_cases hj:j<=u%es/\u%es<j+vs.length
        . rw [if_pos (by omega)];refine jv (fun _=> ?_) (fun hf=>by simp [hin]at hf);have:vs[u%es-j]?=some x1:=by
           simp only [cE]at hx1;rw [Jq,Jy (by simp;omega),Ka (by simp;omega)]at hx1;have e1:u%es-((f i).take j).length=u%es-j:=by simp;omega
           rw [e1]at hx1;exact hx1
          have:=hrel _ _ this;rw [show aa ((s.az id m.ns).take q)+u-(aa ((s.az id m.ns).take q)+i*es+j)=u%es-j from by omega];exact this
        . rw [if_neg (by omega)];refine jv (fun _=> ?_) (fun hf=>by simp [hin]at hf);have:(f i)[u%es]?=some x1:=by
           simp only [cE]at hx1
           by_cases hlt:u%es<j
           . rw [Jq,Ka (by simp;omega),Q6,if_pos hlt]at hx1;exact hx1
           . rw [Jy (by simp;omega),Qg]at hx1;have e1:j+vs.length+(u%es-((f i).take j++vs).length)=u%es:=by simp;omega
             rw [e1]at hx1;exact hx1
          exact r4 _ _ (by rw [hold];exact this)
       ·
        have hne: ¬(i*es<=u/\u<i*es+es):=by
         rintro⟨g1,g2⟩;apply hin;rw [Nat.div_eq_iff hes0];omega
        have hnr: ¬(aa ((s.az id m.ns).take q)+i*es+j<=aa ((s.az id m.ns).take q)+u/\aa ((s.az id m.ns).take q)+u<aa ((s.az id m.ns).take q)+i*es+j+vs.length):=by omega
        rw [if_neg hnr];refine jv (fun hf=>by simp [hin]at hf) (fun _=> ?_);exact r4 _ _ (by rw [hold];exact hy1)
     . rw [if_neg h1]at ht;simp only [ar.size]at h1;rw [if_neg (by omega)];exact r4 t sv ht
 . exact hk.elim
end
end Go.Sx
namespace Go.Sx
open Go Go.RowKit
variable [bW]
theorem F4 {P:Program} {w:World} {S:TypeId} {fi n:Nat} {f:Field} (hf:nY P S fi=some f) (hn:cw P f.type=some (n+1)) (b off:Nat):
 (Instr.fieldAt S (.pointer (some ⟨b,off,none⟩)) fi).run P w= .ok (.pointer (some ⟨b,off+f.offset,none⟩)) w:=by
 unfold nY at hf;split at hf
 case h_2=>cases hf
 rename_i fs hu;simp [Instr.fieldAt,run_underlying hu,hf,Instr.sureAddr,zH hn]
theorem run_indexAt_array {P:Program} {w:World} {T e:TypeId} {len es:Nat} {k:IntKind} {i:Int} (hT:P.underlying T=some (.array len e)) (he:cw P e=some es) (hi:0<=i/\i<(len:Int)) (b off:Nat):
 (Instr.indexAt T (.pointer (some ⟨b,off,none⟩)) (.int k i)).run P w= .ok (.pointer (some ⟨b,off+i.toNat*es,none⟩)) w:=by
 simp [Instr.indexAt,asIntOf,run_underlying hT,Instr.sureAddr,hi,aS he,dU]
theorem run_indexAt_slice {P:Program} {w:World} {T e:TypeId} {len cap es:Nat} {k:IntKind} {i:Int} (hT:P.underlying T=some (.slice e)) (he:cw P e=some es) (hi:0<=i/\i<(len:Int)) (b off:Nat):
 (Instr.indexAt T (.slice (some ⟨b,off,none⟩) len cap) (.int k i)).run P w= .ok (.pointer (some ⟨b,off+i.toNat*es,none⟩)) w:=by
 simp [Instr.indexAt,asIntOf,run_underlying hT,hi,aS he,dU]
theorem oG {P:Program} {w:World} {T:TypeId} {n:Nat} (hT:bZ P T=some true) (hn:cw P T=some n) (cs:Array Value) (off:Nat):(part T cs off).run P w= .ok (.agg (cs.extract off (off+n))) w:=by
 simp [part,nT hT,aS hn]
theorem oj {P:Program} {w:World} {T:TypeId} (hT:bZ P T=some false) (cs:Array Value) (off:Nat) (h:off<cs.size):(part T cs off).run P w= .ok (cs.getD off undef) w:=by
 simp [part,nT hT,h]
section
variable {E : Env} {P : Program} {ro : RO} {own : Own} {s : St} {w : World} {a : Act}
theorem Ah (h:bA E ro own s w a) {o:Oper} {S:TypeId} {fi:Nat} {x:Operand} (ho:o.op= .fieldAddr S x fi) {ws} (hk:(fR x (rp P E.N o.dst S fi)).ok s ws):fW E P o s w a ws:=by
 obtain⟨x',hx,hk1⟩:=aZ h hk;clear hk;unfold rp at hk1;split at hk1
 case h_2=>exact hk1.elim
 rename_i f hf;split at hk1
 case h_2=>exact hk1.elim
 rename_i n hn;have go: ∀{b off:Nat} {y:SV},a.eval x= .pointer (some ⟨b,off,none⟩)->Rel ro own y (.pointer (some ⟨b,off+f.offset,none⟩))->(bm E.N o.dst y).ok s ws->fW E P o s w a ws:=by
  intro b off y hv hr hk;refine aP h (v:= .pointer (some ⟨b,off+f.offset,none⟩)) ?_ hr hk;unfold execOp;simp [ho,hv,F4 hf hn]
 split at hk1
 . rename_i id q;obtain⟨b,hb,hv⟩:=rq hx;obtain⟨m,hm,hk⟩:=fG hk1;have he:=h.gK id m hm;split at hk
   . exact hk.elim
   rename_i hrow;obtain⟨hver,hsh⟩:=he.plain (by simpa using hrow);split at hk
   case h_2=>exact hk.elim
   rename_i q' hq';split at hk
   case isFalse=>exact hk.elim
   rename_i hlt;rw [hsh,<-List.map_drop]at hq';obtain⟨d,e1,e2,e3⟩:=qo hq';have e4:own.st id q'=own.st id q+f.offset:=by
    rw [he.st q' hlt,he.st q (by omega),e1,List.take_add,cu,e3]
   refine go hv ?_ hk;rw [<-e4];exact .ptr _ _ _ _ hb
 . rename_i id aD q i j;obtain⟨b,hb,hv⟩:=tI hx;refine go hv ?_ hk1;rw [Kt];exact .su _ _ _ _ _ _ _ hb
 . rename_i es len g i j;obtain⟨b,k0,vs,hv,hi,hl,hm,hh⟩:=wT hx;refine go hv ?_ hk1;rw [Kt];exact .rA _ _ _ _ _ _ _ _ vs hl hm hh hi
 . exact hk1.elim
theorem Ae (h:bA E ro own s w a) {o:Oper} {T:TypeId} {x y:Operand} (ho:o.op= .indexAddr T x y) {ws} (hk:(fR x fun x=>fR y fun y=>qq P E.N o.dst T x y).ok s ws):fW E P o s w a ws:=by
 obtain⟨x',hx,hk1⟩:=aZ h hk;clear hk;obtain⟨y',hy,hk⟩:=aZ h hk1;clear hk1;unfold qq at hk;split at hk
 case h_2=>exact hk.elim
 rename_i kd i;have hyv:=aK hy;have go: ∀{b off:Nat} {z:SV},(Instr.indexAt T (a.eval x) (.int kd i)).run P w= .ok (.pointer (some ⟨b,off,none⟩)) w->Rel ro own z (.pointer (some ⟨b,off,none⟩))->(bm E.N o.dst z).ok s ws->fW E P o s w a ws:=by
  intro b off z hrun hr hk;refine aP h (v:= .pointer (some ⟨b,off,none⟩)) ?_ hr hk;unfold execOp;simp [ho,hyv,hrun]
 split at hk
 . rename_i len e hT;split at hk
   case h_2=>exact hk.elim
   rename_i id q es hes;obtain⟨b,hb,hv⟩:=rq hx;obtain⟨m,hm,hk⟩:=fG hk;have he:=h.gK id m hm;split at hk
   . exact hk.elim
   rename_i hrow;obtain⟨hver,hsh⟩:=he.plain (by simpa using hrow);split at hk
   case isFalse=>exact hk.elim
   rename_i hq;obtain⟨hi,hk⟩:=hk;rw [hsh,J5]at hq;have e1:own.es id q=es:=by
    simp only [Jp]at hq;obtain⟨g,hg,hg2⟩:=hq;rw [he.es q g hg];cases g<;>simp [ar.shape]at hg2
    simp [ar.es,hg2.2]
   rw [hv]at go;refine go (run_indexAt_array hT hes hi _ _) ?_ hk;have:=Rel.su (ro:=ro) own id 0 q i.toNat 0 b hb
   rwa [e1,Jv]at this
 . rename_i e hT;split at hk
   . rename_i id aD off len es hes;obtain⟨m,hm,hk⟩:=fG hk;have he:=h.gK id m hm;split at hk
     case isFalse=>exact hk.elim
     rename_i hc;obtain⟨hrow,hmes⟩:=hc;obtain⟨hi,hk⟩:=hk;rcases fH hx with⟨b,hb,hcap,hv⟩|⟨_,hl,_,_⟩
     . obtain⟨n,f,hseg,_⟩:=he.row hrow;have e1:own.es id 0=es:=by rw [he.es 0 (.a n m.es f) (by rw [hseg];rfl)];exact hmes
       have e0:own.st id 0=0:=by
        have h1:0<m.ns:=by
         have:=St.aU s id m.ns;rw [hseg]at this;simp at this;omega
        rw [he.st 0 h1];rfl
       rw [hv]at go;refine go (run_indexAt_slice hT hes hi _ _) ?_ hk;have:=Rel.su (ro:=ro) own id aD 0 (off+i.toNat) 0 b hb;rw [e0,e1,Jv,Jg,Ji]at this
       rwa [e1]
     . omega
   . rename_i es' len f es hes;split at hk
     case isFalse=>exact hk.elim
     rename_i he;subst he;obtain⟨hi,hk⟩:=hk;rcases dE hx with⟨hl,_⟩|⟨b,k0,cap,vs,hv,hcap,hl,hm,hh⟩
     . omega
     . rw [hv]at go;refine go (run_indexAt_slice hT hes hi _ _) ?_ hk;have:=Rel.rA (ro:=ro) own es' len f i.toNat 0 b k0 vs hl hm hh (by omega)
       rwa [Jv]at this
   . exact hk.elim
 . exact hk.elim
theorem C2 {es n j:Nat} {agg:Bool} {T:TypeId} (hT:bZ P T=some agg) (hn:cw P T=some n) {cs:Array Value} {off:Nat} {l:List SV} {x:SV} (hx:oo agg n l j=some x)
 (hsz:off+l.length<=cs.size) (hc: ∀(k:Nat) (sv:SV),l[k]?=some sv->Rel ro own sv (cs.getD (off+k) undef)): ∃v,(part T cs (off+j)).run P w= .ok v w/\Rel ro own x v:=by
 unfold oo at hx;cases agg with
 |true=>
  simp only [if_true]at hx;split at hx
  case isFalse=>cases hx
  rename_i hle;simp only [J3]at hx;subst hx;refine⟨_,oG hT hn cs _, .agg _ _ _ ?_ fun k sv hk=> ?_⟩
  . rw [fY];simp;omega
  . rw [lj]at hk;have hkn:k<n:=by
     have:=(Jb.1 hk).1;simp at this;omega
    rw [Q6,if_pos hkn,Qg]at hk;have hlt:=(Jb.1 hk).1;have:=hc (j+k) sv hk;have e:(cs.extract (off+j) (off+j+n)).getD k undef=cs.getD (off+(j+k)) undef:=by
     rw [Jf,Ye,if_pos (by omega),Jf]
     congr 2;omega
    rw [e];exact this
 |false=>
  simp only [Jr,if_false]at hx;split at hx
  case isFalse=>cases hx
  have hlt:=(Jb.1 hx).1;exact⟨_,oj hT cs _ (by omega),hc j x hx⟩
theorem JY (h:bA E ro own s w a) {o:Oper} {T:TypeId} {x y:Operand} (ho:o.op= .index T x y) {ws} (hk:(fR x fun x=>fR y fun y=>Dv P E.N o.dst T x y).ok s ws):fW E P o s w a ws:=by
 obtain⟨x',hx,hk1⟩:=aZ h hk;clear hk;obtain⟨y',hy,hk⟩:=aZ h hk1;clear hk1;unfold Dv at hk;split at hk
 case h_2=>exact hk.elim
 rename_i kd i;have hyv:=aK hy;split at hk
 . rename_i len e hT;split at hk
   case h_2=>exact hk.elim
   rename_i n es f es' agg hes hagg;split at hk
   case isFalse=>exact hk.elim
   rename_i hc;obtain⟨rfl,rfl⟩:=hc;obtain⟨hi,hk⟩:=hk;split at hk
   case isFalse=>exact hk.elim
   rename_i hlen;split at hk
   case h_2=>exact hk.elim
   rename_i z hz;obtain⟨cs,hv,hs,hh⟩:=cU hx;have hin:i.toNat*es+es<=n*es:=by
    have:(i.toNat+1)*es<=n*es:=Jl _ (by omega);rw [Ji]at this;omega
   have hsz:cs.size=n*es:=by rw [hs];simp [aa,ar.size]
   obtain⟨v,hrun,hr⟩:=C2 (ro:=ro) (own:=own) (w:=w) (es:=es) hagg hes (cs:=cs) (off:=i.toNat*es) hz (by omega) (fun k sv hks=>by
    have hk':k<es:=by rw [<-hlen];exact(Jb.1 hks).1
    refine hh _ sv ?_;rw [cy (by omega)];have:=lM (f:=f) (n:=n) (i:=i.toNat) (by omega) hk';simp only [ar.at,show i.toNat*es+k<n*es by omega,if_true]at this;rw [this];exact hks)
   refine aP h (v:=v) ?_ hr hk;unfold execOp;simp [ho,hyv,hv,Instr.index,asIntOf,run_underlying hT,hi,aS hes];rw [Jv]at hrun;simp [hrun]
 . rename_i hT;split at hk
   case h_2=>exact hk.elim
   rename_i st;obtain⟨hi,hk⟩:=hk;have hv:=dR hx;refine aP h (v:= .int .u8 ((st.getD i.toNat 0).toNat:Int)) ?_ (.int _ _ _) hk;unfold execOp;have hlt:i.toNat<st.length:=by omega
   have hget:(⟨st.toArray⟩:ByteArray)[i.toNat]?=some (st.getD i.toNat 0):=by
    have:(⟨st.toArray⟩:ByteArray).size=st.length:=rfl;rw [getElem?_pos _ _ (by rw [this];exact hlt)];simp [J0,hlt];rfl
   simp only [ho,hyv,hv,Instr.index,asIntOf,Sem.run_bind,Sem.run_pure,Result.andThen_ok,run_underlying hT,hi.1,if_true,hget]
 . exact hk.elim
theorem Y8 (h:bA E ro own s w a) {o:Oper} {S:TypeId} {fi:Nat} {x:Operand} (ho:o.op= .field S x fi) {ws} (hk:(fR x (Dd P E.N o.dst S fi)).ok s ws):fW E P o s w a ws:=by
 obtain⟨x',hx,hk1⟩:=aZ h hk;clear hk;unfold Dd at hk1;split at hk1
 case h_2=>exact hk1.elim
 rename_i f l hf;obtain⟨cs,hv,hs,hh⟩:=cU hx;have go: ∀{v:Value} {y:SV},(part f.type cs f.offset).run P w= .ok v w->Rel ro own y v->(bm E.N o.dst y).ok s ws->fW E P o s w a ws:=by
  intro v y hrun hr hk;refine aP h (v:=v) ?_ hr hk;unfold nY at hf;split at hf
  case h_2=>cases hf
  rename_i fs hu;unfold execOp;simp [ho,hv,Instr.field,run_underlying hu,hf,asAgg,hrun]
 split at hk1
 . rename_i n r hagg hn hr;split at hk1
   case h_2=>exact hk1.elim
   rename_i l' hl';obtain⟨d1,d2⟩:=jo hr;obtain⟨t1,t2,t3⟩:=gW hl';refine go (oG hagg hn cs _) (.agg _ l' _ ?_ fun k sv hk=> ?_) hk1
   . simp;omega
   . have hkn:k<n:=by rw [<-t1];exact cK hk
     rw [t3 k hkn,d2]at hk;have e:(cs.extract f.offset (f.offset+n)).getD k undef=cs.getD (f.offset+k) undef:=by
      rw [Jf,Ye,if_pos (by omega),Jf]
     rw [e];exact hh _ sv hk
 . rename_i n v r hagg hn hr;obtain⟨d1,d2⟩:=jo hr;have h0:=d2 0;rw [cC,Jv]at h0;exact go (oj hagg cs _ (by rw [hs];exact cK h0.symm)) (hh _ v h0.symm) hk1
 . exact hk1.elim
theorem I5 (h:bA E ro own s w a) {o:Oper} {op:UnOp} {T:TypeId} {x:Operand} (ho:o.op= .unOp op T x) {x':SV} (hx:Rel ro own x' (a.eval x)) {ws} (hk1:(PO E.N o.dst op x').ok s ws):fW E P o s w a ws:=by
 unfold PO at hk1;split at hk1
 . exact aP h (by unfold execOp;simp [ho,jJ hx,Op.unary]) (.bool _ _) hk1
 . exact aP h (by unfold execOp;simp [ho,nX hx,Op.unary]) (.ff _) hk1
 . exact aP h (by unfold execOp;simp [ho,qD hx,Op.unary]) (.tt _) hk1
 . exact aP h (by unfold execOp;simp [ho,aK hx,Op.unary,Op.intArith]) (.int _ _ _) hk1
 . exact aP h (by unfold execOp;simp only [ho,aK hx,Op.unary,intBits_xor];rfl) (.int _ _ _) hk1
 . exact hk1.elim
theorem Wo (h:bA E ro own s w a) {o:Oper} {op:UnOp} {T:TypeId} {x:Operand} (ho:o.op= .unOp op T x) {ws} (hk:(fR x (PO E.N o.dst op)).ok s ws):fW E P o s w a ws:=by
 obtain⟨x',hx,hk1⟩:=aZ h hk;exact I5 h ho hx hk1
end
end Go.Sx
