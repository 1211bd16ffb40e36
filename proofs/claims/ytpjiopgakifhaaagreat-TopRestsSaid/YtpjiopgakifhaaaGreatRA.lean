import Derived.WalkKit
import Derived.Below
set_option linter.unusedSectionVars false
set_option linter.unusedSimpArgs false
set_option linter.unusedVariables false
set_option maxRecDepth 100000
namespace Go
abbrev Ω:=List Int
abbrev J0:=@List.getD_eq_getElem?_getD
abbrev J1:=@Nat.le_refl
abbrev J2:=@Bool.and_eq_true
abbrev J3:=@Option.some.injEq
abbrev J4:=@List.getElem?_eq_getElem
abbrev J5:=@List.getElem?_map
abbrev J6:=@Int.mul_comm
abbrev J7:=@List.getElem?_eq_none
abbrev J8:=@List.map_cons
abbrev J9:=@Iff.rfl
abbrev Ja:=@Int.mul_nonneg
abbrev Jb:=@List.getElem?_eq_some_iff
abbrev Jc:=@List.length_cons
abbrev Jd:=@Nat.eq_of_beq_eq_true
abbrev Je:=@Int.mul_pos
abbrev Jf:=@Array.getD_eq_getD_getElem?
abbrev Jg:=@Nat.zero_add
abbrev Jh:=@Int.mul_le_mul_of_nonneg_right
abbrev Ji:=@Nat.add_mul
abbrev Jj:=@List.nil_append
abbrev Jk:=@Int.mul_assoc
abbrev Jl:=@Nat.mul_le_mul_right
abbrev Jm:=@Int.emod_nonneg
abbrev Jn:=@Nat.le_trans
abbrev Jo:=@Int.emod_lt_of_pos
abbrev Jp:=@Option.map_eq_some_iff
abbrev Jq:=@List.append_assoc
abbrev Jr:=@Bool.false_eq_true
abbrev Js:=@List.all_eq_true
abbrev Jt:=@Int.mul_le_mul_of_nonneg_left
abbrev Ju:=@Int.le_of_lt
abbrev Jv:=@Nat.add_zero
abbrev Jw:=@Nat.eq_zero_or_pos
abbrev Jy:=@List.getElem?_append_right
abbrev Jz:=@List.take_of_length_le
abbrev K0:=@List.cons_append
abbrev K3:=@Array.getElem?_eq_some_iff
abbrev K4:=@Option.map_some
abbrev K5:=@Option.getD_some
abbrev K6:=@List.getElem?_set
abbrev K7:=@Int.toNat_natCast
abbrev K8:=@Int.one_mul
abbrev K9:=@Nat.div_lt_iff_lt_mul
abbrev Ka:=@List.getElem?_append_left
abbrev Kb:=@Int.ediv_nonneg
abbrev Kc:=@Int.pow_zero
abbrev Kd:=@List.mem_cons
abbrev Ke:=@Int.mul_one
abbrev Kf:=@List.length_nil
abbrev Kg:=@Int.mul_add
abbrev Kh:=@List.mem_map
abbrev Ki:=@Nat.mod_lt
abbrev Kj:=@List.length_take
abbrev Kk:=@Int.pow_succ
abbrev Kl:=@Int.ediv_lt_iff_lt_mul
abbrev Km:=@Nat.mul_comm
abbrev Kn:=@List.mem_range
abbrev Ko:=@List.size_toArray
abbrev Kq:=@Nat.beq_eq
abbrev Kr:=@List.eq_nil_of_length_eq_zero
abbrev Ks:=@List.length_set
abbrev Kt:=@Nat.add_assoc
abbrev Ku:=@List.getElem_mem
abbrev Kv:=@Nat.lt_or_ge
abbrev Kw:=@List.append_nil
abbrev Kx:=@Int.le_refl
abbrev Ky:=@Int.tdiv_eq_ediv_of_nonneg
abbrev Q3:=@List.filter_cons
abbrev Q4:=@Prod.mk.injEq
abbrev Q5:=@Nat.div_add_mod
abbrev Q6:=@List.getElem?_take
abbrev Q7:=@List.range_succ
abbrev Q8:=@Int.eq_ofNat_of_zero_le
abbrev Q9:=@List.getElem?_range
abbrev Qa:=@List.drop_eq_getElem_cons
abbrev Qb:=@Int.mul_le_mul
abbrev Qc:=@Nat.testBit_or
abbrev Qd:=@Int.ediv_ediv_of_nonneg
abbrev Qe:=@Int.lt_or_le
abbrev Qf:=@Nat.lt_of_lt_of_le
abbrev Qg:=@List.getElem?_drop
abbrev Qh:=@Bool.true_and
abbrev Qi:=@Option.isSome_iff_exists
abbrev Qj:=@List.length_map
abbrev Qk:=@Nat.le_of_ble_eq_true
abbrev Ql:=@Int.toNat_zero
abbrev Qm:=@Int.mul_sub
abbrev Qn:=@Nat.min_eq_left
abbrev Qo:=@Int.add_mul
abbrev Qp:=@Int.le_ediv_iff_mul_le
abbrev Qq:=@Int.ediv_eq_zero_of_lt
abbrev Qr:=@Int.emod_eq_of_lt
abbrev Qs:=@Int.mul_ediv_add_emod
abbrev Qu:=@List.take_succ_cons
abbrev Qv:=@Array.getElem?_push
abbrev Qw:=@List.cons.injEq
abbrev Qx:=@List.map_append
abbrev Qy:=@List.replicate_succ
abbrev Qz:=@Bool.or_eq_true
abbrev X0:=@Nat.zero_le
abbrev X1:=@List.mem_flatMap
abbrev X2:=@Int.emod_def
abbrev X3:=@Int.add_mul_ediv_left
abbrev X4:=@List.take_add_one
abbrev X6:=@Int.add_zero
abbrev X7:=@Int.mul_left_comm
abbrev X8:=@Int.mul_lt_mul_of_pos_right
abbrev X9:=@Int.tmod_eq_emod_of_nonneg
abbrev Xa:=@List.length_pos_iff
abbrev Xb:=@List.take_append_drop
abbrev Xc:=@List.ext_getElem?
abbrev Xd:=@List.length_drop
abbrev Xe:=@Option.bind_eq_some_iff
abbrev Xf:=@Nat.sub_zero
abbrev Xg:=@Option.bind_some
abbrev Xh:=@List.getElem?_replicate
abbrev Xi:=@Nat.pow_succ
abbrev Xj:=@List.singleton_append
abbrev Xk:=@Int.natAbs_tdiv
abbrev Xl:=@List.map_congr_left
abbrev Xm:=@Bool.eq_iff_iff
abbrev Xn:=@List.mapM_cons
abbrev Xo:=@Function.comp_def
abbrev Xp:=@Array.getElem?_toList
abbrev Xq:=@List.flatMap_cons
abbrev Xr:=@Array.getElem?_eq_getElem
abbrev Xs:=@Array.getElem?_replicate
abbrev Xt:=@List.mem_append
abbrev Xu:=@BitVec.toNat_ofInt
abbrev Xv:=@Nat.pow_le_pow_right
abbrev Xy:=@List.getElem?_cons_zero
abbrev Xz:=@Array.ext_getElem?
abbrev Y0:=@List.length_append
abbrev Y1:=@List.mem_of_getElem?
abbrev Y2:=@Array.getElem?_eq_none
abbrev Y3:=@Array.getElem?_append
abbrev Y4:=@Option.toList_some
abbrev Y5:=@Int.natAbs_natCast
abbrev Y6:=@List.drop_of_length_le
abbrev Y7:=@List.filter_append
abbrev Ya:=@Array.getElem?_setIfInBounds_ne
abbrev Yb:=@List.getElem?_cons_succ
abbrev Yc:=@Array.size_setIfInBounds
abbrev Yd:=@Array.getElem?_setIfInBounds
abbrev Ye:=@Array.getElem?_extract
abbrev Yf:=@List.drop_eq_nil_of_le
abbrev Yg:=@Int.add_mul_emod_self_left
abbrev Yh:=@Int.gcd_natCast_natCast
abbrev Yi:=@Array.getElem?_setIfInBounds_self_of_lt
abbrev Yj:=@Int.mul_nonneg_of_nonpos_of_nonpos
abbrev Yv:=@Ne.symm
abbrev Yw:=@Option.some.inj
abbrev Yx:=@Bool.not_eq_true'
abbrev Yy:=@Nat.zero_mul
abbrev Yz:=@Nat.beq_refl
abbrev Z1:=@Nat.blt_eq
abbrev Z2:=@List.map_nil
abbrev Z3:=@Int.ediv_le_self
abbrev Z4:=@Nat.pow_pos
abbrev Z5:=@Int.ofNat_lt
abbrev Z6:=@Int.natAbs_eq
abbrev Z7:=@List.range'_succ
abbrev Z8:=@List.take_zero
abbrev Z9:=@Int.gcd_zero_right
abbrev Za:=@Nat.div_le_self
abbrev Zb:=@List.getD_cons_succ
abbrev Zc:=@Array.getElem?_modify
abbrev Zd:=@List.length_range
abbrev Ze:=@Nat.one_shiftLeft
abbrev Zf:=@Option.bind_eq_bind
abbrev Zg:=@List.mem_of_mem_take
abbrev Zh:=@Int.lt_of_le_of_lt
abbrev Zi:=@Int.lt_ediv_add_one_mul_self
abbrev JA:=@if_neg
abbrev JB:=@if_pos
abbrev JE:=@if_true
abbrev JF:=@if_false
abbrev JG:=@decide_eq_true_eq
abbrev JH:=@decide_eq_false
abbrev JJ:=@decide_eq_true
abbrev JK:=@and_true
abbrev JL:=@true_and
abbrev JM:=@congrArg
abbrev JN:=@beq_iff_eq
abbrev JO:=@Int.natAbs_mul
abbrev JP:=@List.mem_singleton
abbrev JQ:=@Int.zero_mul
abbrev JR:=@Int.mul_neg
abbrev JS:=@Nat.add_comm
abbrev JT:=@Nat.mul_le_mul
abbrev JU:=@Nat.mul_one
abbrev JV:=@Int.le_total
abbrev JW:=@Int.mul_eq_zero
abbrev JX:=@decide_eq_decide
abbrev JY:=@Int.mul_pos_of_neg_of_neg
abbrev JZ:=@Int.pow_pos
abbrev KA:=@Int.mul_zero
abbrev KB:=@of_decide_eq_true
abbrev KC:=@Int.mul_neg_of_neg_of_pos
abbrev KD:=@Int.mul_nonpos_of_nonneg_of_nonpos
abbrev KE:=@List.not_mem_nil
abbrev KG:=@Int.ediv_le_ediv
abbrev KH:=@Int.lt_of_mul_lt_mul_right
abbrev KI:=@Int.mul_neg_of_pos_of_neg
abbrev KJ:=@List.mem_of_mem_drop
abbrev KK:=@Int.mul_lt_mul_of_pos_left
abbrev KL:=@Int.mul_ediv_cancel_left
abbrev KM:=@Int.ediv_lt_of_lt_mul
abbrev KN:=@Int.mul_ediv_mul_of_pos_left
abbrev KO:=@Int.gcd_pos_of_ne_zero_left
abbrev KP:=@Int.le_of_mul_le_mul_right
end Go
namespace Go.Sx
open Go Go.RowKit
def jU(b:Bool)(p:Prop):Prop:=match b with
 |true=>p
 |false=>False
theorem aL{b:Bool}{p:Prop}:jU b p↔b=true/\p:=by cases b<;>simp[jU]
inductive XE : Type
 | v (i : Nat)
 | c (n : Int)
 | add (a b : XE)
 | sub (a b : XE)
 | mul (a b : XE)
 | quo (a b : XE)
 | mn (a b : XE)
 | mx (a b : XE)
mutual
inductive SV : Type
 | any
 | bool (b : Bool)
 | tt
 | ff
 | int (k : IntKind) (n : Int)
 | str (s : List UInt8)
 | aq
 | agg (l : List ar)
 | df (l : List SV)
 | ptr (id q : Nat)
 | su (id aD q i j : Nat)
 | sl (id aD off len : Nat)
 | bF (es len : Nat) (f : Nat -> List SV)
 | rA (es len : Nat) (f : Nat -> List SV) (i j : Nat)
 | fn (f : Nat) (a b : List SV)
 | DG
 | emp
 | z9 (id : Nat)
 | km
 | Gu
 | pn
 | Gl (e es n : Nat) (f : Nat -> List SV)
 | sy (k : IntKind) (e : XE) (lo hi : Int)
 | tg (i : Nat)
inductive ar : Type
 | s (v : SV)
 | a (n es : Nat) (f : Nat -> List SV)
end
instance : Inhabited SV := ⟨.any⟩
instance : Inhabited ar := ⟨.s .any⟩
def LZ:SV->Bool
 |.bF _ _ _|.aq=>true
 |_=>false
class bW where
 val : Nat -> Int
 tag : Nat -> SV
 row : ∀ i, LZ (tag i) = true
def XE.den[bW]:XE->Int
 |.v i=>bW.val i
 |.c n=>n
 |.add a b=>a.den+b.den
 |.sub a b=>a.den-b.den
 |.mul a b=>a.den*b.den
 |.quo a b=>a.den.tdiv b.den
 |.mn a b=>min a.den b.den
 |.mx a b=>max a.den b.den
variable [bW]
def ar.size:ar->Nat
 |.s _=>1
 |.a n es _=>n*es
def ar.es:ar->Nat
 |.s _=>1
 |.a _ es _=>es
def ar.at:ar->Nat->Option SV
 |.s v,0=>some v
 |.s _,_+1=>none
 |.a n es f,k=>if k<n*es then(f (k/es))[k%es]? else none
def aa:List ar->Nat
 |[]=>0
 |x::r=>x.size+aa r
def flat:List ar->Nat->Option SV
 |[],_=>none
 |x::r,k=>if k<x.size then x.at k else flat r (k-x.size)
structure Own where
 env : Nat -> Nat -> Option (Option Nat)
 cap : Nat -> Nat -> Nat
 st : Nat -> Nat -> Nat
 es : Nat -> Nat -> Nat
def Own.empty:Own:=⟨λ_ _=>none,λ_ _=>0,λ_ _=>0,λ_ _=>0⟩
abbrev RO:=Nat->Nat->Option Value
inductive Rel (ro : RO) : Own -> SV -> Value -> Prop
 | any (o : Own) (v : Value) : Rel ro o .any v
 | bool (o : Own) (b : Bool) : Rel ro o (.bool b) (.bool b)
 | tt (o : Own) : Rel ro o .tt (.bool true)
 | ff (o : Own) : Rel ro o .ff (.bool false)
 | int (o : Own) (k : IntKind) (n : Int) : Rel ro o (.int k n) (.int k n)
 | str (o : Own) (s : List UInt8) : Rel ro o (.str s) (.string ⟨s.toArray⟩)
 | aq (o : Own) : Rel ro o .aq (.slice none 0 0)
 | agg (o : Own) (l : List ar) (cs : Array Value) (hs : cs.size = aa l) (h : ∀ k sv, flat l k = some sv -> Rel ro o sv (cs.getD k undef)) : Rel ro o (.agg l) (.agg cs)
 | df (o : Own) (l : List SV) (vs : Array Value) (hs : vs.size = l.length) (h : ∀ i sv, l[i]? = some sv -> Rel ro o sv (vs.getD i undef)) : Rel ro o (.df l) (.tuple vs)
 | ptr (o : Own) (id q b : Nat) (h : o.env id 0 = some (some b)) : Rel ro o (.ptr id q) (.pointer (some ⟨b, o.st id q, none⟩))
 | su (o : Own) (id aD q i j b : Nat) (h : o.env id aD = some (some b)) : Rel ro o (.su id aD q i j) (.pointer (some ⟨b, o.st id q + i * o.es id q + j, none⟩))
 | sl (o : Own) (id aD off len b : Nat) (h : o.env id aD = some (some b)) (hc : off + len <= o.cap id aD) : Rel ro o (.sl id aD off len) (.slice (some ⟨b, off * o.es id 0, none⟩) len (o.cap id aD - off))
 | Es (o : Own) (id aD off len : Nat) (h : o.env id aD = some none) (hl : len = 0) (ho : off = 0) : Rel ro o (.sl id aD off len) (.slice none 0 0)
 | fe (o : Own) (es len : Nat) (f : Nat -> List SV) (a : Option Addr) (cap : Nat) (h : len = 0) : Rel ro o (.bF es len f) (.slice a 0 cap)
 | bF (o : Own) (es len : Nat) (f : Nat -> List SV) (b k0 cap : Nat) (vs : Nat -> Value) (hc : len <= cap) (hl : ∀ i, i < len -> (f i).length = es) (hm : ∀ k, k < len * es -> ro b (k0 + k) = some (vs k))
  (h : ∀ i j sv, i < len -> (f i)[j]? = some sv -> Rel ro Own.empty sv (vs (i * es + j))) : Rel ro o (.bF es len f) (.slice (some ⟨b, k0, none⟩) len cap)
 | rA (o : Own) (es len : Nat) (f : Nat -> List SV) (i j b k0 : Nat) (vs : Nat -> Value) (hl : ∀ i, i < len -> (f i).length = es) (hm : ∀ k, k < len * es -> ro b (k0 + k) = some (vs k))
  (h : ∀ i j sv, i < len -> (f i)[j]? = some sv -> Rel ro Own.empty sv (vs (i * es + j))) (hi : i < len) : Rel ro o (.rA es len f i j) (.pointer (some ⟨b, k0 + i * es + j, none⟩))
 | fn (o : Own) (f : Nat) (a b : List SV) (va vb : Array Value) (ha : va.size = a.length) (hb : vb.size = b.length) (h1 : ∀ i sv, a[i]? = some sv -> Rel ro o sv (va.getD i undef)) (h2 : ∀ i sv, b[i]? = some sv -> Rel ro o sv (vb.getD i undef)) :
  Rel ro o (.fn f a b) (.func (.func f) va vb)
 | DG (o : Own) (v : Value) (h : v.oneCell' = true) : Rel ro o .DG v
 | emp (o : Own) (A : Addr) : Rel ro o .emp (.slice (some A) 0 0)
 | z9 (o : Own) (id b : Nat) (h : o.env id 0 = some (some b)) : Rel ro o (.z9 id) (.map (some b))
 | km (o : Own) : Rel ro o .km (.map none)
 | Gu (o : Own) : Rel ro o .Gu (.pointer none)
 | pn (o : Own) : Rel ro o .pn .nilFunc
 | sy (o : Own) (k : IntKind) (e : XE) (lo hi n : Int) (h : n = e.den) (hl : lo <= n) (hh : n <= hi) : Rel ro o (.sy k e lo hi) (.int k n)
 | tg (o : Own) (i : Nat) (v : Value) (h : Rel ro Own.empty (bW.tag i) v) : Rel ro o (.tg i) v
def ga(r c:RO):Prop:=∀b o v,r b o=some v->c b o=some v
theorem ga.refl(r:RO):ga r r:=λ_ _ _ h=>h
theorem ga.trans{a b c:RO}(h:ga a b)(k:ga b c):ga a c:=λx y v e=>k x y v (h x y v e)
structure Own.le (o o' : Own) : Prop where
 env : ∀ id aD x, o.env id aD = some x -> o'.env id aD = some x
 cap : ∀ id aD x, o.env id aD = some x -> o'.cap id aD = o.cap id aD
 st : ∀ id aD x q, o.env id aD = some x -> o'.st id q = o.st id q
 es : ∀ id aD x q, o.env id aD = some x -> o'.es id q = o.es id q
theorem Own.le.refl(o:Own):o.le o:=⟨λ_ _ _ h=>h,λ_ _ _ _=>rfl,λ_ _ _ _ _=>rfl,λ_ _ _ _ _=>rfl⟩
theorem Own.le.trans{a b c:Own}(h:a.le b)(k:b.le c):a.le c:=
 ⟨λi v x e=>k.env i v x (h.env i v x e),λi v x e=>(k.cap i v x (h.env i v x e)).trans (h.cap i v x e),λi v x q e=>(k.st i v x q (h.env i v x e)).trans (h.st i v x q e),λi v x q e=>(k.es i v x q (h.env i v x e)).trans (h.es i v x q e)⟩
theorem Own.empty_le(o:Own):Own.empty.le o:=⟨(λ_ _ _ h=>by cases h),(λ_ _ _ h=>by cases h),(λ_ _ _ _ h=>by cases h),(λ_ _ _ _ h=>by cases h)⟩
theorem Rel.mono{r H:RO}{o:Own}{m:SV}{v:Value}(h:Rel r o m v):∀{p:Own},ga r H->o.le p->Rel H p m v:=by
 induction h with
 |any=>intros;exact .any _ _
 |bool=>intros;exact .bool _ _
 |tt=>intros;exact .tt _
 |ff=>intros;exact .ff _
 |int=>intros;exact .int _ _ _
 |str=>intros;exact .str _ _
 |aq=>intros;exact .aq _
 |agg o l O B h u=>intro p d c;exact .agg _ _ _ B λk m e=>u k m e d c
 |df o l z B h u=>intro p d c;exact .df _ _ _ B λk m e=>u k m e d c
 |ptr o id q b h=>intro p d c;rw[<-c.st id 0 _ q h];exact .ptr _ _ _ _ (c.env _ _ _ h)
 |su o id w q i j b h=>intro p d c;rw[<-c.st id w _ q h,<-c.es id w _ q h];exact .su _ _ _ _ _ _ _ (c.env _ _ _ h)
 |sl o id w off len b h C=>intro p d c;rw[<-c.cap id w _ h,<-c.es id w _ 0 h];exact .sl _ _ _ _ _ _ (c.env _ _ _ h) (by rw[c.cap id w _ h];exact C)
 |Es o id w off len h x J=>intro p d c;exact .Es _ _ _ _ _ (c.env _ _ _ h) x J
 |fe o es len f a cap h=>intros;exact .fe _ _ _ _ _ _ h
 |bF o es len f b K cap z C x D h u=>intro p d c;exact .bF _ _ _ _ _ _ _ z C x (λk E=>d _ _ _ (D k E)) λi j m y e=>u i j m y e d (.refl _)
 |rA o es len f i j b K z x D h y u=>intro p d c;exact .rA _ _ _ _ _ _ _ _ z x (λk E=>d _ _ _ (D k E)) (λi j m y e=>u i j m y e d (.refl _)) y
 |DG o v h=>intros;exact .DG _ _ h
 |emp o A=>intros;exact .emp _ _
 |z9 o id b h=>intro p d c;exact .z9 _ _ _ (c.env _ _ _ h)
 |km o=>intros;exact .km _
 |Gu o=>intros;exact .Gu _
 |pn o=>intros;exact .pn _
 |sy o k e R y n h x L=>intros;exact .sy _ _ _ _ _ _ h x L
 |tg o i v h u=>intro p d c;exact .tg _ _ _ (u d (.refl _))
 |fn o f a b X Z M N h1 h2 F G=>intro p d c;exact .fn _ _ _ _ _ _ M N (λi m e=>F i m e d c) (λi m e=>G i m e d c)
theorem Rel.own{r:RO}{o b:Own}{c:SV}{v:Value}(h:Rel r o c v)(d:o.le b):Rel r b c v:=h.mono (.refl _) d
theorem cK{l:List ar}{k:Nat}{b:SV}(h:flat l k=some b):k<aa l:=by
 induction l generalizing k with
 |nil=>cases h
 |cons x r c=>
  simp only[flat]at h;simp only[aa];split at h
  . omega
  . have:=c h;omega
theorem jw(l r:List ar)(k:Nat):flat (l++r) k=if k<aa l then flat l k else flat r (k-aa l):=by
 induction l generalizing k with
 |nil=>simp[aa]
 |cons x l c=>
  simp only[K0,flat,aa]
  by_cases h:k<x.size
  . simp[h];omega
  . simp only[h,JF,c]
    by_cases b:k-x.size<aa l
    . rw[JB b,JB (by omega)]
    . rw[JA b,JA (by omega)];congr 1;omega
theorem cu(l r:List ar):aa (l++r)=aa l+aa r:=by
 induction l with
 |nil=>simp[aa]
 |cons x l b=>simp only[K0,aa,b];omega
theorem tO{l:List ar}{q:Nat}{x:ar}(h:l[q]?=some x)(k:Nat)(b:k<x.size):flat l (aa (l.take q)+k)=x.at k:=by
 induction l generalizing q with
 |nil=>simp at h
 |cons y l c=>
  cases q with
  |zero=>simp at h;subst h;simp[flat,aa,b]
  |succ q=>
   simp at h;simp only[Qu,aa,flat];rw[JA (by omega),show y.size+aa (l.take q)+k-y.size=aa (l.take q)+k from by omega];exact c h
theorem tj{l:List ar}{q:Nat}{x:ar}(h:l[q]?=some x):l=l.take q++x::l.drop (q+1):=by
 obtain⟨b,rfl⟩:=Jb.1 h;rw[<-List.drop_eq_getElem_cons b,Xb]
theorem Po{l:List ar}{q:Nat}{x y:ar}(h:l[q]?=some x)(c:y.size=x.size)(k:Nat):
 flat (l.set q y) k=if aa (l.take q)<=k/\k<aa (l.take q)+x.size then y.at (k-aa (l.take q))else flat l k:=by
 have d:=(Jb.1 h).1;have e:l.set q y=l.take q++y::l.drop (q+1):=by
  rw[List.set_eq_take_append_cons_drop,JB d]
 conv=>rhs;rw[tj h]
 rw[e,jw,jw];simp only[flat];have i:aa (List.take q (l.take q++x::l.drop (q+1)))=aa (l.take q):=by rw[<-tj h]
 rw[i]
 by_cases b:k<aa (l.take q)
 . rw[JB b,JA (by omega),JB b]
 . by_cases j:k-aa (l.take q)<x.size
   . rw[JA b,JB (by omega),JB (by omega)]
   . rw[JA b,JA (by omega),JA (by omega),JA b,JA j,c]
theorem US{l:List ar}{q:Nat}{x:ar}(h:l[q]?=some x):aa (l.take q)+x.size<=aa l:=by
 conv=>rhs;rw[tj h]
 simp only[cu,aa];omega
theorem lM{n b:Nat}{f:Nat->List SV}{i j:Nat}(d:i<n)(c:j<b):(ar.a n b f).at (i*b+j)=(f i)[j]?:=by
 have e:(i*b+j)/b=i:=by
  rw[Km,Nat.mul_add_div (by omega),Nat.div_eq_of_lt c,Jv]
 have h:(i*b+j)%b=j:=by
  rw[Km,Nat.mul_add_mod,Nat.mod_eq_of_lt c]
 have k:i*b+j<n*b:=by
  have:(i+1)*b<=n*b:=Jl _ d;rw[Ji]at this;omega
 simp only[ar.at,k,JE,e,h]
structure lZ where
 aD : Nat
 zW : Bool
 row : Bool
 app : Option TypeId
 ns : Nat
 es : Nat
 sh : List (Option (Nat × Nat))
def ar.shape:ar->Option (Nat×Nat)
 |.s _=>none
 |.a n es _=>some (n,es)
inductive Item
 | v (x : SV)
 | m (x : Option lZ)
 | s (x : ar)
inductive Loc
 | tm (t : Nat)
 | mt (id : Nat)
 | sg (id q : Nat)
 deriving DecidableEq
abbrev St:=Loc->Item
def St.uC(s:St)(b q:Nat):ar:=match s (.sg b q)with|.s x=>x|_=>.s .any
def St.az(s:St)(b n:Nat):List ar:=(List.range n).map (s.uC b)
def St.put(s:St)(l:Loc)(x:Item):St:=λb=>if b=l then x else s b
def St.apply(s:St):List (Loc×Item)->St
 |[]=>s
 |(l,x)::r=>(s.put l x).apply r
structure Live (B : Nat) (ro : RO) (own : Own) (az : List ar) (w : World) (id : Nat) (m : lZ) (b : Nat) : Prop where
 low : B <= b
 apart : ∀ o, ro b o = none
 body : ∃ cs e lo hi, w.heap[b]? = some (.cells cs e (lo, hi)) /\ (hi <= lo \/ aa az <= lo) /\ (∀ t, m.app = some t -> lo = 0 /\ hi = 0 /\ e = t /\ own.cap id m.aD <= maxLen) /\ aa az <= cs.size /\ (∀ k sv, flat az k = some sv -> Rel ro own sv (cs.getD k undef)) /\
  (m.row = false -> cs.size = aa az) /\ (m.row = true -> cs.size = own.cap id m.aD * own.es id 0)
structure TZ (B : Nat) (ro : RO) (own : Own) (az : List ar) (w : World) (id : Nat) (m : lZ) : Prop where
 st : ∀ q, q < m.ns -> own.st id q = aa (az.take q)
 es : ∀ q x, az[q]? = some x -> own.es id q = x.es
 row : m.row = true -> ∃ n f, az = [.a n m.es f] /\ (∀ b, own.env id m.aD = some (some b) -> n <= own.cap id m.aD)
 plain : m.row = false -> m.aD = 0 /\ m.sh = az.map ar.shape
 there : ∃ x, own.env id m.aD = some x
 nil : own.env id m.aD = some none -> m.row = true /\ ∃ f, az = [.a 0 m.es f]
 live : ∀ b, own.env id m.aD = some (some b) -> m.zW = false -> Live B ro own az w id m b
 dn : ∀ b, own.env id m.aD = some (some b) -> m.zW = true -> ∀ k, k < aa az -> ∃ v, ro b k = some v /\ ∀ sv, flat az k = some sv -> Rel ro Own.empty sv v
def cz(m:lZ):Bool:=m.zW&& !m.row&&Nat.beq m.ns 0
inductive mD (ro : RO) (own : Own) : Obj -> Nat -> Nat -> (Nat -> List SV) -> Prop
 | map (es : Array MapEntry) (clk n : Nat) (f : Nat -> List SV) (h : es.size = n) (hf : ∀ (i : Nat) (e : MapEntry), es[i]? = some e -> ∃ k v, f i = [k, v] /\ Rel ro own k e.key /\ Rel ro own v e.val) : mD ro own (.map es clk) n 2 f
 | iter (l : List UInt8) (pos n : Nat) (f : Nat -> List SV) (hf : ∃ k v, f 0 = [k, v] /\ Rel ro own k (.string ⟨l.toArray⟩) /\ Rel ro own v (.int .i64 (pos : Int))) (hn : n = 1) : mD ro own (.stringIter ⟨l.toArray⟩ pos) n 3 f
theorem mD.mono{r c:RO}{d b:Own}{o:Obj}{n e:Nat}{f:Nat->List SV}(h:mD r d o n e f)(j:ga r c)(m:d.le b):mD c b o n e f:=by
 cases h with
 |map es p n f h q=>exact .map es p n f h λi x u=>let⟨k,v,f1,f2,f3⟩:=q i x u;⟨k,v,f1,f2.mono j m,f3.mono j m⟩
 |iter l pos n f q w=>obtain⟨k,v,f1,f2,f3⟩:=q;exact .iter l pos n f ⟨k,v,f1,f2.mono j m,f3.mono j m⟩ w
structure ZL (B : Nat) (ro : RO) (own : Own) (w : World) (id n e : Nat) (f : Nat -> List SV) : Prop where
 at_ : ∃ b o, own.env id 0 = some (some b) /\ B <= b /\ w.heap[b]? = some o /\ (∀ c t fr, o ≠ .cells c t fr) /\ mD ro own o n e f /\ own.st id 0 = 0
structure vG (B : Nat) (ro : RO) (own : Own) (s : St) (w : World) : Prop where
 at_ : ∀ id m n e f, s (.mt id) = .m (some m) -> cz m = true -> s (.sg id 0) = .s (.a n e f) -> ZL B ro own w id n e f
 inj : ∀ id id' m m' b n e f n' e' f', s (.mt id) = .m (some m) -> s (.mt id') = .m (some m') -> cz m = true -> cz m' = true -> s (.sg id 0) = .s (.a n e f) -> s (.sg id' 0) = .s (.a n' e' f') -> own.env id 0 = some (some b) -> own.env id' 0 = some (some b) -> id = id'
theorem vG.mono{B:Nat}{L r:RO}{j d:Own}{s C:St}{w M:World}(h:vG B L j s w)(D:ga L r)(E:j.le d)(F:∀id m,s (.mt id)=.m (some m)->∃x,j.env id m.aD=some x)(Z:∀id m,s (.mt id)=.m (some m)->cz m=true->m.aD=0)
 (k:∀id m,C (.mt id)=.m (some m)->cz m=true->s (.mt id)=.m (some m)/\∀n e f,C (.sg id 0)=.s (.a n e f)->s (.sg id 0)=.s (.a n e f)) (p:∀b o,B<=b->(∀c t fr,o≠ .cells c t fr)->w.heap[b]?=some o->M.heap[b]?=some o):vG B r d C M:=by
 have i:∀id m,s (.mt id)=.m (some m)->cz m=true->d.env id 0=j.env id 0:=λid m N hk=>by
  obtain⟨x,G⟩:=F id m N;rw[Z id m N hk]at G;rw[E.env _ _ _ G,G]
 refine⟨λid m n e f H u y=>?_,λid q m J b n e f n' e' f' H u y K g1 g2 h5 h6=>?_⟩
 . obtain⟨z,A⟩:=k id m H u;obtain⟨b,o,O,R,e3,X,e5,e6⟩:=(h.at_ id m n e f z u (A _ _ _ y)).at_;exact⟨b,o,by rw[i id m z u];exact O,R,p _ _ R X e3,X,e5.mono D E,by rw[E.st id 0 _ 0 O];exact e6⟩
 . obtain⟨z,r1⟩:=k id m H y;obtain⟨A,r2⟩:=k q J u K;exact h.inj id q m J b _ _ _ _ _ _ z A y K (r1 _ _ _ g1) (r2 _ _ _ g2) (by rw[<-i id m z y];exact h5) (by rw[<-i q J A K];exact h6)
structure Env where
 B : Nat
 w0 : World
 R : RO
 N : Nat
 K : Own -> RO -> Prop
 mono : ∀ o o' r r', o.le o' -> ga r r' -> K o r -> K o' r'
def eb(w:World)(b o:Nat)(v:Value):Prop:=w.cell? ⟨b,o,none⟩=some v/\w.frozen? ⟨b,o,none⟩=false
theorem eb.mk'{w:World}{b o:Nat}{c:Array Value}{e:TypeId}{d i:Nat}(h:w.heap[b]?=some (.cells c e (d,i)))(j:o<c.size)(k:i<=d\/o<d):eb w b o (c.getD o undef):=by
 refine⟨?_,?_⟩
 . rw[World.cell?];simp only[h];simp[j]
 . rw[World.frozen?];simp only[h];simp;omega
theorem eb.of_heap{w c:World}{b o:Nat}{v:Value}(h:eb w b o v)(d:c.heap[b]?=w.heap[b]?):eb c b o v:=by
 unfold eb World.cell? World.frozen? at*
 simp only[d];exact h
structure bA (E : Env) (ro : RO) (own : Own) (s : St) (w : World) (a : Act) : Prop where
 below : Below E.B E.w0 w
 base : E.B <= w.heap.size
 defs : a.defers = []
 size : a.tmps.size = E.N
 tm : ∀ t sv, s (.tm t) = .v sv -> Rel ro own sv (a.tmps.getD t undef)
 cJ : ∀ b o v, ro b o = some v -> eb w b o v
 uU : ∀ b o, b < E.B -> ro b o = E.R b o
 gK : ∀ id m, s (.mt id) = .m (some m) -> TZ E.B ro own (s.az id m.ns) w id m
 fr : ∀ id, s (.mt id) = .m none -> ∀ aD, own.env id aD = none
 mY : ∀ id m, s (.mt id) = .m (some m) -> ∀ aD, m.aD < aD -> own.env id aD = none
 inj : ∀ id id' m m' b, s (.mt id) = .m (some m) -> s (.mt id') = .m (some m') -> m.zW = false -> m'.zW = false -> own.env id m.aD = some (some b) -> own.env id' m'.aD = some (some b) -> id = id'
 kk : E.K own ro
 mp : vG E.B ro own s w
theorem bA.th{E:Env}{d:RO}{b:Own}{s:St}{w:World}{a:Act}(h:bA E d b s w a)(c:Nat)(m:lZ)(e:s (.mt c)=.m (some m)):∃x,b.env c m.aD=some x:=(h.gK c m e).there
theorem bA.m0{E:Env}{e:RO}{b:Own}{s:St}{w:World}{a:Act}(h:bA E e b s w a)(c:Nat)(m:lZ)(i:s (.mt c)=.m (some m))(d:cz m=true):m.aD=0:=((h.gK c m i).plain (by simp[cz]at d;exact d.1.2)).1
theorem bA.mp'{E:Env}{u j:RO}{k d:Own}{s p:St}{w x:World}{a:Act}(h:bA E u k s w a)(q:ga u j)(y:k.le d)(r:∀id m,p (.mt id)=.m (some m)->cz m=true->s (.mt id)=.m (some m)/\∀n e f,p (.sg id 0)=.s (.a n e f)->s (.sg id 0)=.s (.a n e f))(i:∀b o,E.B<=b->(∀c t z,o≠ .cells c t z)->w.heap[b]?=some o->x.heap[b]?=some o):vG E.B j d p x:=h.mp.mono q y h.th h.m0 r i
def dL(E:Env)(s:St)(w:World)(a:Act):Prop:=∃ro own,bA E ro own s w a
theorem St.cQ(s:St)(l:Loc)(x:Item):s.put l x l=x:=by simp[St.put]
theorem St.bh(s:St){l b:Loc}(x:Item)(h:b≠l):s.put l x b=s b:=by simp[St.put,h]
theorem St.Gw(s:St)(t:Nat)(x:Item)(b n:Nat):(s.put (.tm t) x).az b n=s.az b n:=by
 simp only[St.az];refine Xl λq _=>?_;simp[St.uC,St.put]
theorem St.bL(s:St)(b n q:Nat)(h:q<n):(s.az b n)[q]?=some (s.uC b q):=by
 simp[St.az,h]
theorem St.dX(s:St)(b n:Nat):(s.az b n).length=n:=by simp[St.az]
theorem bA.put{E:Env}{o:RO}{i:Own}{s:St}{w:World}{a:Act}(h:bA E o i s w a){d:Nat}{r:SV}{v:Value}(y:d<E.N)(z:Rel o i r v):
 bA E o i (s.put (.tm d) (.v r)) w (a.put (some d) v):=by
 refine {below:=h.below,base:=h.base,defs:=h.defs,size:=by simpa[Act.put]using h.size,tm:=?_,cJ:=h.cJ,uU:=h.uU,gK:=?_,fr:=?_,mY:=?_,inj:=?_,kk:=h.kk,mp:=h.mp' (.refl _) (.refl _) (λid m u B=>⟨by rw[St.bh _ _ (by simp)]at u;exact u,λn e f x=>by rw[St.bh _ _ (by simp)]at x;exact x⟩) (λ_ _ _ _ h=>h)}
 . intro t p k
   by_cases e:t=d
   . subst e;simp only[St.put,JE,Item.v.injEq]at k;subst k;simp only[Act.put];rw[Jf,Yi (by rw[h.size];exact y)];exact z
   . rw[St.bh _ _ (by simpa using e)]at k;simp only[Act.put];rw[Jf,Ya (by omega),<-Array.getD_eq_getD_getElem?];exact h.tm t p k
 . intro id m c;rw[St.bh _ _ (by simp)]at c;rw[St.Gw];exact h.gK id m c
 . intro id c;rw[St.bh _ _ (by simp)]at c;exact h.fr id c
 . intro id m c;rw[St.bh _ _ (by simp)]at c;exact h.mY id m c
 . intro id q m A b c j;rw[St.bh _ _ (by simp)]at c j;exact h.inj id q m A b c j
theorem bA.world{E:Env}{r:RO}{d:Own}{s:St}{w i:World}{a:Act}(h:bA E r d s w a)(c:i.heap=w.heap)(j:i.os=w.os)(u:i.tape=w.tape)(p:i.output=w.output):bA E r d s i a:=by
 refine {below:=⟨j.trans h.below.os,u.trans h.below.tape,p.trans h.below.output,by rw[c];exact h.below.size,λk x=>by rw[c];exact h.below.block k x⟩,base:=by rw[c];exact h.base,defs:=h.defs,size:=h.size,tm:=h.tm,cJ:=?_,uU:=h.uU,gK:=?_,fr:=h.fr,mY:=h.mY,inj:=h.inj,kk:=h.kk,mp:=h.mp' (.refl _) (.refl _) (λ_ _ j _=>⟨j,λ_ _ _ p=>p⟩) (λb _ _ _ h=>by rw[c];exact h)}
 . intro b o v e;exact(h.cJ b o v e).of_heap (by rw[c])
 . intro id m y;have:=h.gK id m y;refine {st:=this.st,es:=this.es,row:=this.row,plain:=this.plain,there:=this.there,nil:=this.nil,live:=?_,dn:=this.dn};intro b z A;have q:=this.live b z A;exact⟨q.low,q.apart,by rw[c];exact q.body⟩
theorem bA.cellH{E:Env}{o:RO}{c:Own}{s:St}{w:World}{a:Act}(h:bA E o c s w a){d:Nat}{m:lZ}{b k:Nat}(x:s (.mt d)=.m (some m))(p:c.env d m.aD=some (some b))
 (q:k<aa (s.az d m.ns)):∃v,eb w b k v/\∀i,flat (s.az d m.ns) k=some i->Rel o c i v:=by
 have r:=h.gK d m x;cases u:m.zW with
 |true=>
  obtain⟨v,y,z⟩:=r.dn b p u k q;exact⟨v,h.cJ b k v y,λi A=>(z i A).own (Own.empty_le _)⟩
 |false=>
  obtain⟨B,e,F,G,C,H,_,j,D,_,_⟩:=(r.live b p u).body;exact⟨B.getD k undef,.mk' C (Qf q j) (by omega),D k⟩
theorem bA.DR{E:Env}{e:RO}{c:Own}{s:St}{w:World}{a:Act}(h:bA E e c s w a){d:Nat}{m:lZ}{b k:Nat}(j:s (.mt d)=.m (some m))(o:c.env d m.aD=some (some b))
 (p:k<aa (s.az d m.ns)):∃v,w.cell? ⟨b,k,none⟩=some v/\∀i,flat (s.az d m.ns) k=some i->Rel e c i v:=
 let⟨v,q,r⟩:=h.cellH j o p
 ⟨v,q.1,r⟩
theorem bA.cell{E:Env}{i:RO}{c:Own}{s:St}{w:World}{a:Act}(h:bA E i c s w a){d:Nat}{m:lZ}{b k:Nat}{e:SV}(o:s (.mt d)=.m (some m))(p:c.env d m.aD=some (some b))
 (j:flat (s.az d m.ns) k=some e):∃v,w.cell? ⟨b,k,none⟩=some v/\Rel i c e v:=by
 obtain⟨v,q,r⟩:=h.DR o p (cK j);exact⟨v,q,r e j⟩
end Go.Sx
namespace Go.Sx
open Go Go.RowKit
variable [bW]
inductive Tx : Type
 | done (ws : List (Loc × Item))
 | rd (l : Loc) (k : Item -> Tx)
 | AU (p : Prop) (k : Tx)
 | kK (p : Prop) (d : Decidable p) (k : Tx)
 | fail
def Tx.ok(s:St):Tx->List (Loc×Item)->Prop
 |.done c,b=>c=b
 |.rd l k,b=>(k (s l)).ok s b
 |.AU p k,b=>p/\k.ok s b
 |.kK p _ k,b=>p/\k.ok s b
 |.fail,_=>False
def Tx.reads(s:St):Tx->List Loc
 |.done _=>[]
 |.rd l k=>l::(k (s l)).reads s
 |.AU _ k=>k.reads s
 |.kK _ _ k=>k.reads s
 |.fail=>[]
theorem Tx.local{s d:St}:∀(t:Tx),(∀l∈t.reads s,d l=s l)->∀b,t.ok s b->t.ok d b
 |.done _,_,_,h=>h
 |.rd l k,c,b,h=>by
  have e:d l=s l:=c l (by simp[Tx.reads]);simp only[Tx.ok,e];exact Tx.local (k (s l)) (λi j=>c i (by simp[Tx.reads,j])) b h
 |.AU p k,c,b,h=>⟨h.1,Tx.local k c b h.2⟩
 |.kK p _ k,c,b,h=>⟨h.1,Tx.local k c b h.2⟩
 |.fail,_,_,h=>h.elim
abbrev kK(p:Prop)[d:Decidable p](k:Tx):Tx:=.kK p d k
abbrev bB:=List SV->Option (Prop×SV)
def rdT(t:Nat)(k:SV->Tx):Tx:=.rd (.tm t) λ|.v x=>k x|_=>.fail
def DJ(b:Nat)(k:lZ->Tx):Tx:=.rd (.mt b) λ|.m (some x)=>k x|_=>.fail
def oO(b:Nat)(k:Tx):Tx:=.rd (.mt b) λ|.m none=>k|_=>.fail
def Dx(b q:Nat)(k:ar->Tx):Tx:=.rd (.sg b q) λ|.s x=>k x|_=>.fail
def GS(b:Nat):Nat->Nat->(List ar->Tx)->Tx
 |_,0,k=>k []
 |q,n+1,k=>Dx b q λx=>GS b (q+1) n λr=>k (x::r)
def Ck:Value->Option SV
 |.bool true=>some .tt
 |.bool false=>some .ff
 |.int k n=>some (.int k n)
 |.string s=>some (.str s.data.toList)
 |.slice none 0 0=>some .aq
 |.pointer none=>some .Gu
 |.map none=>some .km
 |.nilFunc=>some .pn
 |_=>none
def fR(o:Operand)(k:SV->Tx):Tx:=
 match o with
 |.tmp t=>rdT t k
 |.const v=>match Ck v with
  |some x=>k x
  |none=>.fail
 |.func f=>k (.fn f [] [])
 |.global _=>.fail
def jI:List Operand->(List SV->Tx)->Tx
 |[],k=>k []
 |o::r,k=>fR o λx=>jI r λb=>k (x::b)
def bm(N:Nat)(b:Option Tmp)(x:SV):Tx:=
 match b with
 |some d=>if d<N then .done [(.tm d,.v x)]else .fail
 |none=>.done []
def ib:SV->Bool
 |.any|.agg _|.df _=>false
 |_=>true
def Lz:SV->Option Bool
 |.bool b=>some b
 |.tt=>some true
 |.ff=>some false
 |_=>none
def dY(c:Bool):SV->SV->SV
 |.int k x,.int d y=>if k=d then .int k (if c then x else y)else .any
 |.bool x,.bool y=>.bool (if c then x else y)
 |.bool x,.tt=>.bool (if c then x else true)
 |.bool x,.ff=>.bool (if c then x else false)
 |.tt,.bool y=>.bool (if c then true else y)
 |.ff,.bool y=>.bool (if c then false else y)
 |.tt,.tt=>.tt
 |.ff,.ff=>.ff
 |.tt,.ff=>.bool c
 |.ff,.tt=>.bool (!c)
 |.str x,.str y=>.str (if c then x else y)
 |.aq,.aq=>.aq
 |.bF es n f,.bF b e h=>if es=b then .bF es (if c then n else e) (λi=>if c then f i else h i)else .any
 |.aq,.bF es n f=>.bF es (if c then 0 else n) f
 |.bF es n f,.aq=>.bF es (if c then n else 0) f
 |x,y=>match c with
  |true=>x
  |false=>y
def af(c:Bool):List SV->List SV->List SV
 |x::r,y::r'=>dY c x y::af c r r'
 |_,_=>[]
def bZ(P:Program)(t:TypeId):Option Bool:=
 match P.underlying t with
 |some (.struct _)|some (.array _ _)=>some true
 |some _=>some false
 |none=>none
def cw(P:Program)(t:TypeId):Option Nat:=(P.info? t).map (·.size)
def zp(P:Program):Nat->TypeId->Option (List ar)
 |0,_=>none
 |d+1,t=>
  match P.underlying t with
  |some (.int k)=>some [.s (.int k 0)]
  |some .bool=>some [.s .ff]
  |some .string=>some [.s (.str [])]
  |some (.slice _)=>some [.s .aq]
  |some (.map _ _)=>some [.s .km]
  |some (.pointer _)=>some [.s .Gu]
  |some (.struct fs)=>zeroFields (λt=>zp P d t) fs.toList
  |some (.array n e)=>match zp P d e with
   |some l=>match cellsOf l with
    |some cs=>some [.a n cs.length λ_=>cs]
    |none=>none
   |none=>none
  |_=>none
 where
 zeroFields (z:TypeId->Option (List ar)):List Field->Option (List ar)
  |[]=>some []
  |f::fs=>match z f.type,zeroFields z fs with
   |some l,some r=>some (l++r)
   |_,_=>none
 cellsOf:List ar->Option (List SV)
  |[]=>some []
  |.s v::r=>(cellsOf r).map (v:: ·)
  |.a .. ::_=>none
def jQ:List ar->List Value->Bool
 |[],[]=>true
 |.s v::r,c::cs=>(match v,c with
  |.int k n,.int k' n'=>k==k'&&n==n'
  |.ff,.bool b=> !b
  |.str [],.string s=>s.size==0
  |.aq,.slice none 0 0=>true
  |.km,.map none=>true
  |.Gu,.pointer none=>true
  |_,_=>false)&&jQ r cs
 |.a n es f::r,cs=>cs.length>=n*es&&((List.range n).all λi=>spellsL (f i) ((cs.drop (i*es)).take es))&&jQ r (cs.drop (n*es))
 |_,_=>false
 where
 spellsL:List SV->List Value->Bool
  |[],[]=>true
  |v::r,c::cs=>(match v,c with
   |.int k n,.int k' n'=>k==k'&&n==n'
   |.ff,.bool b=> !b
   |.str [],.string s=>s.size==0
   |.aq,.slice none 0 0=>true
   |.km,.map none=>true
   |.Gu,.pointer none=>true
   |_,_=>false)&&spellsL r cs
  |_,_=>false
def zeroOf(P:Program)(t:TypeId):Option (List ar×Value):=
 match zp P 8 t,(P.info? t).bind (·.zero)with
 |some l,some z=>if jQ l z.cells.toList then some (l,z)else none
 |_,_=>none
def qt:List (Option (Nat×Nat))->Nat->Nat->Option Nat
 |_,q,0=>some q
 |none::r,q,off+1=>qt r (q+1) off
 |some (n,es)::r,q,off+1=>if n*es<=off+1/\0<n*es then qt r (q+1) (off+1-n*es)else none
 |[],_,_+1=>none
def jL:List ar->Nat->Option (List ar)
 |_,0=>some []
 |x::r,m+1=>if x.size<=m+1/\0<x.size then(jL r (m+1-x.size)).map (x:: ·)else none
 |[],_+1=>none
def kT:List ar->Nat->Option (List ar)
 |l,0=>some l
 |x::r,m+1=>if x.size<=m+1/\0<x.size then kT r (m+1-x.size)else none
 |[],_+1=>none
def aV:List ar->Option (List SV)
 |[]=>some []
 |.s v::r=>(aV r).map (v:: ·)
 |.a .. ::_=>none
def ny:SV->Option (List SV)
 |.agg l=>aV l
 |v=>if ib v then some [v]else none
def ln:SV->Option (List ar)
 |.agg l=>some l
 |v=>if ib v then some [.s v]else none
def cE(l:List SV)(j:Nat)(b:List SV):List SV:=l.take j++b++l.drop (j+b.length)
def bs(b:Nat):Nat->List ar->List (Loc×Item)
 |_,[]=>[]
 |q,x::r=>(.sg b q,.s x)::bs b (q+1) r
def lO(b:Nat)(c:Bool)(d:Option TypeId)(e:Nat)(l:List ar):List (Loc×Item):=
 (.mt b,.m (some ⟨0,false,c,d,l.length,e,if c then []else l.map ar.shape⟩))::bs b 0 l
def uf(N b:Nat)(c:Option Tmp)(e:Bool)(h:Option TypeId)(i:Nat)(l:List ar)(x:SV):Tx:=
 match c with
 |some d=>if d<N then oO b (.done (lO b e h i l++[(.tm d,.v x)]))else .fail
 |none=>.fail
def MG(N b:Nat)(c:Option Tmp)(x:SV):Tx:=
 match ln x with
 |some l=>uf N b c false none 0 l (.ptr b 0)
 |none=>.fail
def CX(P:Program)(N b:Nat)(c:Option Tmp)(T:TypeId):Tx:=
 match zeroOf P T with
 |some (l,_)=>uf N b c false none 0 l (.ptr b 0)
 |none=>.fail
def oo(agg:Bool)(n:Nat)(b:List SV)(j:Nat):Option SV:=
 if agg then(if j+n<=b.length then some (.agg (((b.drop j).take n).map .s))else none)else(if n=1 then b[j]? else none)
def x6(P:Program)(N:Nat)(b:Option Tmp)(T:TypeId)(x:SV):Tx:=
 match bZ P T,cw P T with
 |some agg,some n=>
  match x with
  |.ptr id q=>DJ id λm=>
   if m.row then .fail else
   if agg then(if q<m.ns then GS id q (m.ns-q) λl=>match jL l n with
    |some c=>bm N b (.agg c)
    |none=>.fail else .fail)
   else Dx id q λ
    |.s v=>if q<m.ns then bm N b v else .fail
    |_=>.fail
  |.su id d q i j=>DJ id λm=>
   if m.aD=d/\q<m.ns then Dx id q λ
    |.a k es f=>kK (i<k) (if(f i).length=es then(match oo agg n (f i) j with
     |some v=>bm N b v
     |none=>.fail)else .fail)
    |_=>.fail
   else .fail
  |.rA es _ f i j=>if(f i).length=es then(match oo agg n (f i) j with
   |some v=>bm N b v
   |none=>.fail)else .fail
  |_=>.fail
 |_,_=>.fail
def lC:List ar->Bool
 |[]=>true
 |.s v::r=>ib v&&lC r
 |.a _ _ _::r=>lC r
def mF(b:Nat)(l:List SV):Bool:=l.length==b&&l.all ib
def wM:List ar->Tx->Tx
 |[],k=>k
 |.s _::r,k=>wM r k
 |.a n es f::r,k=>kK (∀i,i<n->mF es (f i)=true) (wM r k)
def BU(P:Program)(T:TypeId)(x v:SV):Tx:=
 match cw P T with
 |some n=>
  match x with
  |.ptr id q=>DJ id λm=>
   if m.row\/m.zW then .fail else
   match ln v with
   |some l=>if aa l=n/\q+l.length<=m.ns/\(m.sh.drop q).take l.length=l.map ar.shape/\lC l=true then wM l (.done (bs id q l))else .fail
   |none=>.fail
  |.su id d q i j=>DJ id λm=>
   if m.aD=d/\q<m.ns/\m.zW=false then Dx id q λ
    |.a k es f=>match ny v with
     |some b=>kK (i<k) (if(f i).length=es/\j+b.length<=es/\b.length=n/\b.all ib=true then .done [(.sg id q,.s (.a k es λc=>af (decide (c=i)) (cE (f i) j b) (f c)))]else .fail)
     |none=>.fail
    |_=>.fail
   else .fail
  |_=>.fail
 |none=>.fail
def nY(P:Program)(S:TypeId)(b:Nat):Option Field:=
 match P.underlying S with
 |some (.struct c)=>c[b]?
 |_=>none
def rp(P:Program)(N:Nat)(b:Option Tmp)(S:TypeId)(d:Nat)(x:SV):Tx:=
 match nY P S d with
 |some f=>match cw P f.type with
  |some (_+1)=>match x with
   |.ptr id q=>DJ id λm=>if m.row then .fail else match qt (m.sh.drop q) q f.offset with
    |some c=>if c<m.ns then bm N b (.ptr id c)else .fail
    |none=>.fail
   |.su id e q i j=>bm N b (.su id e q i (j+f.offset))
   |.rA es len g i j=>bm N b (.rA es len g i (j+f.offset))
   |_=>.fail
  |_=>.fail
 |none=>.fail
def qq(P:Program)(N:Nat)(b:Option Tmp)(T:TypeId)(x d:SV):Tx:=
 match d with
 |.int _ i=>match P.underlying T with
  |some (.array len e)=>match x,cw P e with
   |.ptr id q,some es=>DJ id λm=>if m.row then .fail else
    if m.sh[q]?=some (some (len,es))then kK (0<=i/\i<(len:Int)) (bm N b (.su id 0 q i.toNat 0))else .fail
   |_,_=>.fail
  |some (.slice e)=>match x,cw P e with
   |.sl id h off len,some es=>DJ id λm=>if m.row=true/\m.es=es then kK (0<=i/\i<(len:Int)) (bm N b (.su id h 0 (off+i.toNat) 0))else .fail
   |.bF c len f,some es=>if c=es then kK (0<=i/\i<(len:Int)) (bm N b (.rA c len f i.toNat 0))else .fail
   |_,_=>.fail
  |_=>.fail
 |_=>.fail
def Dv(P:Program)(N:Nat)(b:Option Tmp)(T:TypeId)(x c:SV):Tx:=
 match c with
 |.int _ i=>match P.underlying T with
  |some (.array len e)=>match x,cw P e,bZ P e with
   |.agg [.a n es f],some es',some agg=>if n=len/\es=es' then kK (0<=i/\i<(len:Int)) (if(f i.toNat).length=es then(match oo agg es (f i.toNat) 0 with
    |some v=>bm N b v
    |none=>.fail)else .fail)else .fail
   |_,_,_=>.fail
  |some .string=>match x with
   |.str s=>kK (0<=i/\i<(s.length:Int)) (bm N b (.int .u8 ((s.getD i.toNat 0).toNat:Int)))
   |_=>.fail
  |_=>.fail
 |_=>.fail
def Dd(P:Program)(N:Nat)(b:Option Tmp)(S:TypeId)(c:Nat)(x:SV):Tx:=
 match nY P S c,x with
 |some f,.agg l=>match bZ P f.type,cw P f.type,kT l f.offset with
  |some true,some n,some r=>match jL r n with
   |some d=>bm N b (.agg d)
   |none=>.fail
  |some false,some _,some (.s v::_)=>bm N b v
  |_,_,_=>.fail
 |_,_=>.fail
def vv(N:Nat)(b:Option Tmp)(i:Nat):SV->Tx
 |.df l=>match l[i]? with
  |some v=>bm N b v
  |none=>.fail
 |_=>.fail
def On(c a b:SV):Option SV:=
 match c with
 |.tt=>some a
 |.ff=>some b
 |.bool x=>some (dY x a b)
 |_=>none
def ot:SV->SV->Bool
 |.int _ x,.int _ y=>x==y
 |.str x,.str y=>x==y
 |x,y=>match Lz x,Lz y with
  |some a,some b=>a==b
  |_,_=>false
def tJ:List SV->List SV->Bool
 |x::r,y::r'=>ot x y&&tJ r r'
 |_,_=>true
def iI:List ar->List ar->Bool
 |.s x::r,.s y::r'=>ot x y&&iI r r'
 |.a n _ f::r,.a _ _ g::r'=>((List.range n).all λi=>tJ (f i) (g i))&&iI r r'
 |_,_=>true
inductive CK
 | int (k : IntKind)
 | bool
 | str
 deriving DecidableEq
def iM:SV->Option CK
 |.int k _=>some (.int k)
 |.bool _|.tt|.ff=>some .bool
 |.str _=>some .str
 |_=>none
def sO:List SV->List CK->Bool
 |[],[]=>true
 |v::r,k::ks=>iM v==some k&&sO r ks
 |_,_=>false
def dC (P:Program):Nat->TypeId->Option (List CK)
 |0,_=>none
 |d+1,t=>
  match P.underlying t with
  |some (.int k)=>some [.int k]
  |some .bool=>some [.bool]
  |some .string=>some [.str]
  |some (.struct fs)=>if P.stoodInHeld t then none else fields (λt=>dC P d t) P 0 fs.toList
  |some (.array n e)=>match dC P d e,cw P e with
   |some ks,some m=>if ks.length=m then some ((List.replicate n ks).flatten)else none
   |_,_=>none
  |_=>none
 where
 fields (z:TypeId->Option (List CK)) (P:Program) (off:Nat):List Field->Option (List CK)
  |[]=>some []
  |f::fs=>match z f.type,cw P f.type with
   |some l,some m=>if f.name≠ "_" /\f.offset=off/\l.length=m then(fields z P (off+m) fs).map (l++ ·)else none
   |_,_=>none
def aaa(b n:Nat)(c:List CK):Bool:=(List.range n).all λi=>decide ((c.drop (i*b)).take b=c.take b)
def ef:List ar->List CK->Prop
 |[],ks=>jU ks.isEmpty True
 |.s v::r,k::ks=>jU (iM v==some k) (ef r ks)
 |.a n es f::r,ks=>jU (aaa es n ks&&Nat.ble (n*es) ks.length) ((∀i,i<n->sO (f i) (ks.take es)=true)/\ef r (ks.drop (n*es)))
 |_,_=>False
instance fitsKDec : ∀ (l : List ar) (ks : List CK), Decidable (ef l ks)
 | [], ks => by unfold ef jU; cases ks.isEmpty <;> infer_instance
 | .s v :: r, k :: ks => by
  have := fitsKDec r ks;unfold ef jU; split <;> infer_instance
 | .a n es f :: r, ks => by
  have := fitsKDec r (ks.drop (n * es));unfold ef jU; split <;> infer_instance
 | .s v :: r, [] => by unfold ef; infer_instance
def bG:List ar->List ar->Bool
 |[],[]=>true
 |x::r,y::r'=>(match x,y with|.s _,.s _=>true|.a n es _,.a c b _=>n==c&&es==b|_,_=>false)&&bG r r'
 |_,_=>false
def E7(b:BinOp)(k:IntKind)(x y:Int):Option SV:=
 match b with
 |.add=>some (.int k (k.wrap (x+y)))
 |.sub=>some (.int k (k.wrap (x-y)))
 |.mul=>some (.int k (k.wrap (x*y)))
 |.and|.or|.xor|.andNot=>some (.int k (bits b k x y))
 |.eql=>some (.bool (x==y))
 |.neq=>some (.bool (x !=y))
 |.lss=>some (.bool (decide (x<y)))
 |.leq=>some (.bool (decide (x<=y)))
 |.gtr=>some (.bool (decide (x>y)))
 |.geq=>some (.bool (decide (x>=y)))
 |_=>none
def yp(P:Program)(N:Nat)(c:Option Tmp)(d:BinOp)(T:TypeId)(x y:SV):Tx:=
 match x,y with
 |.int k a,.int h b=>
  match d with
  |.shl=>kK (0<=b) (bm N c (.int k (k.wrap (a*2^min b.toNat k.bits))))
  |.shr=>kK (0<=b) (bm N c (.int k (a/2^min b.toNat k.bits)))
  |.quo=>if k=h then kK (b≠0) (bm N c (.int k (k.wrap (a.tdiv b))))else .fail
  |.rem=>if k=h then kK (b≠0) (bm N c (.int k (a.tmod b)))else .fail
  |_=>if k=h then(match P.underlying T,E7 d k a b with
   |some (.int _),some v=>bm N c v
   |_,_=>.fail)else .fail
 |.str a,.str b=>
  match d with
  |.add=>kK (a.length+b.length<=9223372036854775807) (bm N c (.str (a++b)))
  |.eql=>bm N c (.bool (a==b))
  |.neq=>bm N c (.bool (!(a==b)))
  |_=>.fail
 |.agg l,.agg e=>
  match dC P 8 T with
  |some i=>if P.eqGuardType P.depth T=false/\bG l e=true/\bZ P T=some true then kK (ef l i/\ef e i) (match d with
   |.eql=>bm N c (.bool (iI l e))
   |.neq=>bm N c (.bool (!iI l e))
   |_=>.fail)else .fail
  |none=>.fail
 |_,_=>match Lz x,Lz y,P.underlying T with
  |some a,some b,some .bool=>match d with
   |.eql=>bm N c (.bool (a==b))
   |.neq=>bm N c (.bool (!(a==b)))
   |_=>.fail
  |_,_,_=>.fail
def PO(N:Nat)(c:Option Tmp)(d:UnOp)(x:SV):Tx:=
 match d,x with
 |.not,.bool b=>bm N c (.bool (!b))
 |.not,.tt=>bm N c .ff
 |.not,.ff=>bm N c .tt
 |.neg,.int k n=>bm N c (.int k (k.wrap (0-n)))
 |.xor,.int k n=>bm N c (.int k (bits .xor k (if k.signed then-1 else k.max) n))
 |_,_=>.fail
def AV(P:Program)(N:Nat)(b:Option Tmp)(S D:TypeId)(x:SV):Tx:=
 match P.underlying S,P.underlying D,x with
 |some (.int _),some (.int k),.int _ n=>bm N b (.int k (k.wrap n))
 |_,_,_=>.fail
def B8(P:Program)(T:TypeId):List (Nat×SV)->List ar->Option (List ar)
 |[],l=>some l
 |(i,v)::r,l=>match nY P T i,ln v with
  |some f,some c=>if cw P f.type=some (aa c)then(match jL l f.offset,kT l (f.offset+aa c)with
   |some a,some b=>B8 P T r (a++c++b)
   |_,_=>none)else none
  |_,_=>none
def aaM(n c:Nat):List (Nat×SV)->(Nat->List SV)->Option (Nat->List SV)
 |[],f=>some f
 |(i,v)::r,f=>match ny v with
  |some b=>if i<n/\b.length=c then aaM n c r (if n=1 then(λ_=>b)else λd=>af (decide (d=i)) b (f d))else none
  |none=>none
def CG(P:Program)(N:Nat)(c:Option Tmp)(T:TypeId)(b:List (Nat×SV)):Tx:=
 match zeroOf P T with
 |some (l,_)=>match P.underlying T,l with
  |some (.struct d),l=>if d.toList.all (λf=>(cw P f.type).isSome)=true then(match B8 P T b l with
   |some h=>bm N c (.agg h)
   |none=>.fail)else .fail
  |some (.array n e),[.a n' es f]=>if n=n'/\cw P e=some es then(match aaM n es b f with
   |some i=>bm N c (.agg [.a n es i])
   |none=>.fail)else .fail
  |_,_=>.fail
 |none=>.fail
def gi(P:Program)(e:TypeId):Option (List SV):=
 match zeroOf P e with
 |some (l,_)=>aV l
 |none=>none
def dS(P:Program)(N d:Nat)(h:Option Tmp)(T:TypeId)(b:Nat)(c:List (Nat×SV)):Tx:=
 match P.underlying T with
 |some (.slice e)=>match gi P e,cw P e with
  |some z,some es=>if z.length=es/\0<es/\b*es<=16777216 then(match aaM b es c (λ_=>z)with
   |some f=>uf N d h true (some e) es [.a b es f] (.sl d 0 0 b)
   |none=>.fail)else .fail
  |_,_=>.fail
 |_=>.fail
def pt(P:Program)(N b:Nat)(c:Option Tmp)(T:TypeId)(x y:SV):Tx:=
 match P.underlying T,x,y with
 |some (.slice e),.int .i64 n,.int .i64 d=>match gi P e,P.info? e with
  |some z,some i=>if z.length=i.size/\0<i.size then
   kK (d=n/\0<=n/\n<=9223372036854775807/\(i.bytes:Int)*n<=281474976710656) (uf N b c true (some e) i.size [.a n.toNat i.size λ_=>z] (.sl b 0 0 n.toNat))else .fail
  |_,_=>.fail
 |_,_,_=>.fail
def Dc:Option SV->Option Int
 |none=>some 0
 |some (.int _ n)=>some n
 |_=>none
def CW(b:Nat):Option SV->Option Int
 |none=>some (b:Int)
 |some (.int _ n)=>some n
 |_=>none
def Cv(P:Program)(N:Nat)(b:Option Tmp)(T:TypeId)(x:SV)(c d:Option SV):Tx:=
 match P.underlying T,x with
 |some .string,.str s=>match Dc c,CW s.length d with
  |some l,some h=>kK (0<=l/\l<=h/\h<=(s.length:Int)) (bm N b (.str ((s.take h.toNat).drop l.toNat)))
  |_,_=>.fail
 |some (.slice e),.bF es len f=>match Dc c,CW len d with
  |some l,some h=>if cw P e=some es then kK (0<=l/\l<=h/\h<=(len:Int)) (bm N b (.bF es (h-l).toNat λi=>f (l.toNat+i)))else .fail
  |_,_=>.fail
 |some (.slice e),.sl id j off len=>match Dc c,CW len d with
  |some l,some h=>DJ id λm=>if m.row=true/\cw P e=some m.es then(match Nat.ble 3 m.es,c,d with
   |true,none,some _=>kK (0<=h/\h<=(len:Int)) (bm N b (.sl id j off h.toNat))
   |true,some _,none=>Dx id 0 λ
    |.a _ es f=>if es=m.es then kK (l=(len:Int)) (bm N b (.bF m.es 0 f))else .fail
    |_=>.fail
   |_,_,_=>kK (0<=l/\l<h/\h<=(len:Int)) (bm N b (.sl id j (off+l.toNat) (h-l).toNat)))else .fail
  |_,_=>.fail
 |_,_=>.fail
def yP(P:Program)(N:Nat)(b:Option Tmp)(T:TypeId)(x c mx:SV):Tx:=
 match P.underlying T,x,c,mx with
 |some (.slice e),.bF es len f,.int _ h,.int _ m=>if cw P e=some es then kK (h=m/\0<=h/\h<=(len:Int)) (bm N b (.bF es h.toNat f))else .fail
 |_,_,_,_=>.fail
def fM:SV->Bool
 |.bool _|.tt|.ff|.int _ _|.str _|.aq|.bF _ _ _|.DG|.emp|.km|.Gu|.pn|.sy _ _ _ _|.tg _=>true
 |_=>false
def yr(b:Nat)(l:List SV):Bool:=l.length==b&&l.all fM
def gm:List ar->Prop
 |[]=>True
 |.s v::r=>jU (fM v) (gm r)
 |.a n es f::r=>(∀i,i<n->yr es (f i)=true)/\gm r
instance closedSegsDec : ∀ l : List ar, Decidable (gm l)
 | [] => by unfold gm; infer_instance
 | .s v :: r => by
  have := closedSegsDec r;unfold gm jU; split <;> infer_instance
 | .a n es f :: r => by
  have := closedSegsDec r;unfold gm; infer_instance
def gX:SV->Prop
 |.agg l=>gm l
 |v=>jU (fM v) True
instance closedSVDec : ∀ v : SV, Decidable (gX v) := fun v => by
 unfold gX; split
 . infer_instance
 . unfold jU; split <;> infer_instance
def xL(c:Nat)(x:SV)(k:Nat->(Nat->List SV)->Tx):Tx:=
 match x with
 |.aq=>k 0 λ_=>List.replicate c (.int .i64 0)
 |.bF b len f=>if b=c then k len f else .fail
 |.sl id d off len=>DJ id λm=>if m.row=true/\m.aD=d/\m.es=c then Dx id 0 λ
  |.a n b f=>if b=c then kK (off+len<=n) (k len λi=>f (off+i))else .fail
  |_=>.fail
  else .fail
 |_=>.fail
def Oh(P:Program)(N:Nat)(b:Option Tmp)(T:TypeId)(x:SV):Tx:=
 match P.underlying T,x with
 |some .string,.str s=>bm N b (.int .i64 (s.length:Int))
 |some (.array n _),_=>bm N b (.int .i64 (n:Int))
 |some (.slice _),.bF _ len _=>bm N b (.int .i64 (len:Int))
 |some (.slice _),.sl _ _ _ len=>bm N b (.int .i64 (len:Int))
 |some (.slice _),.aq=>bm N b (.int .i64 0)
 |_,_=>.fail
def XF:SV->SV->Option SV
 |.int k x,.int b y=>if k=b then some (.int k (if y<x then y else x))else none
 |_,_=>none
def Ga:SV->SV->Option SV
 |.int k x,.int b y=>if k=b then some (.int k (if y>x then y else x))else none
 |_,_=>none
def oF(N:Nat)(b:Option Tmp):Option SV->Tx
 |some v=>bm N b v
 |none=>.fail
def tG(c d:Nat)(e:TypeId)(h b:Nat)(x:SV)(k:Nat)(g:Nat->List SV):Tx:=
 match x with
 |.aq=>kK (k<=140737488355328/\k*b<=140737488355328) (oO c (.done (lO c true (some e) h [.a k h g]++[(.tm d,.v (.sl c 0 0 k))])))
 |.sl id aD off len=>DJ id λm=>if m.row=true/\m.aD=aD/\m.es=h/\m.zW=false/\m.app=some e then Dx id 0 λ
  |.a n i f=>if i=h then kK (off=0/\len=n/\n+k<=140737488355328/\(n+k)*b<=140737488355328)
   (.done [(.mt id,.m (some {m with aD:=aD+1})),(.sg id 0,.s (.a (n+k) h λj=>af (decide (j<n)) (f j) (g (j-n)))),(.tm d,.v (.sl id (aD+1) 0 (n+k)))])else .fail
  |_=>.fail
  else .fail
 |_=>.fail
def kY(P:Program)(N b:Nat)(c:Option Tmp)(T:TypeId)(x y:SV):Tx:=
 match P.underlying T with
 |some (.slice e)=>match gi P e,P.info? e,c with
  |some z,some i,some d=>if z.length=i.size/\0<i.size/\d<N then
   xL i.size y λk g=>
   kK (∀j,j<k->mF i.size (g j)=true) (tG b d e i.size i.bytes x k g)else .fail
  |_,_,_=>.fail
 |_=>.fail
def isByte:List SV->Bool
 |[.int .u8 _]=>true
 |_=>false
def byteOf:List SV->UInt8
 |[.int .u8 n]=>UInt8.ofNat n.toNat
 |_=>0
def bytesOf(n:Nat)(g:Nat->List SV):List UInt8:=(List.range n).map λj=>byteOf (g j)
def nQ(s:List UInt8)(i:Nat):List SV:=[.int .u8 ((s.getD i 0).toNat:Int)]
def yQ(P:Program)(N c:Nat)(b:Option Tmp)(S D:TypeId)(x:SV):Tx:=
 match P.underlying S,P.underlying D with
 |some (.slice e),some .string=>match P.underlying e with
  |some (.int .u8)=>xL 1 x λk g=>kK (∀j,j<k->isByte (g j)=true) (bm N b (.str (bytesOf k g)))
  |_=>.fail
 |some .string,some (.slice e)=>match P.underlying e,x with
  |some (.int .u8),.str s=>uf N c b true none 1 [.a s.length 1 (nQ s)] (.sl c 0 0 s.length)
  |_,_=>.fail
 |_,_=>AV P N b S D x
def tz:Option Value->Bool
 |some (.int .u8 0)=>true
 |_=>false
def vV(P:Program)(N b:Nat)(c:Option Tmp)(T U:TypeId)(x y:SV):Tx:=
 match P.underlying T,P.underlying U,y with
 |some (.slice e),some .string,.str s=>match P.info? e,c with
  |some i,some d=>if tz i.zero=true/\i.size=1/\i.bytes=1/\d<N then tG b d e 1 1 x s.length (nQ s)else .fail
  |_,_=>.fail
 |_,_,_=>.fail
def uz(N:Nat)(b:Option Tmp)(x:SV)(k:Nat)(g:Nat->List SV):Tx:=
 match x with
 |.sl id c off len=>DJ id λm=>if m.row=true/\m.aD=c/\m.es=1/\m.zW=false/\m.app.isSome=true then Dx id 0 λ
  |.a n es f=>match b with
   |some d=>if es=1/\d<N then kK (off+len<=n/\0<len)
    (.done [(.sg id 0,.s (.a n 1 λj=>af (decide (off<=j/\j<off+min k len)) (g (j-off)) (f j))),(.tm d,.v (.int .i64 ((min k len:Nat):Int)))])else .fail
   |none=>.fail
  |_=>.fail
  else .fail
 |_=>.fail
def G7(P:Program)(N:Nat)(b:Option Tmp)(T:TypeId)(x y:SV):Tx:=
 match P.underlying T with
 |some (.slice e)=>match P.info? e with
  |some i=>if i.size=1 then(match y with
   |.str s=>uz N b x s.length (nQ s)
   |y=>xL 1 y λk g=>kK (∀j,j<k->mF 1 (g j)=true) (uz N b x k g))else .fail
  |none=>.fail
 |_=>.fail
def qh(x:SV)(k:SV->List (Loc×Item)->Tx):Tx:=
 match x with
 |.sl id b off len=>DJ id λm=>if m.row=true/\m.aD=b then Dx id 0 λ
  |.a n es f=>if m.es=es then kK (off+len<=n/\∀i,i<n->yr es (f i)=true) (k (.bF es len λi=>f (off+i)) [(.mt id,.m (some {m with zW:=true}))])else .fail
  |_=>.fail
  else .fail
 |v=>kK (gX v) (k v [])
def iL:List SV->(List SV->List (Loc×Item)->Tx)->Tx
 |[],k=>k [] []
 |x::r,k=>qh x λc d=>iL r λe b=>k (c::e) (d++b)
def MK:List ar->Bool
 |[]=>false
 |.s (.sl _ _ _ _)::_=>true
 |_::r=>MK r
def x7(x:SV)(k:SV->List (Loc×Item)->Tx):Tx:=
 match x with
 |.agg l=>match MK l with
  |true=>match aV l with
   |some c=>iL c λb d=>k (.agg (b.map .s)) d
   |none=>.fail
  |false=>kK (gX (.agg l)) (k (.agg l) [])
 |v=>qh v k
def cn:List SV->(List SV->List (Loc×Item)->Tx)->Tx
 |[],k=>k [] []
 |x::r,k=>x7 x λc d=>cn r λe b=>k (c::e) (d++b)
def wV(N b:Nat)(c:Option Tmp)(p:Prop)(i:List (Loc×Item))(e h n:Nat)(f:Nat->List SV)(x:SV):Tx:=
 match c with
 |some d=>if d<N then .AU p (oO b (.done (i++(lO b true (some e) h [.a n h f]++[(.tm d,.v x)]))))else .fail
 |none=>.fail
def UO:SV->Bool
 |.bool _|.tt|.ff|.str _|.aq|.bF _ _ _=>true
 |_=>false
def nonR(b:Nat)(l:List SV):Bool:=l.length==b&&l.all UO
def P0(x b:SV)(k:SV->Tx):Tx:=match b with
 |.bF es _ _=>match x with
  |.sl _ _ _ _=>xL es x λn g=>kK (∀i,i<n->nonR es (g i)=true) (k (.bF es n g))
  |x=>kK (gX x) (k x)
 |_=>kK (gX x) (k x)
def NI:List SV->List SV->(List SV->Tx)->Tx
 |[],_,k=>k []
 |x::r,x'::r',k=>P0 x x' λy=>NI r r' λb=>k (y::b)
 |_::_,[],_=>.fail
def De:List SV->List SV->Bool
 |.sl _ _ _ _::r,.bF es _ _::r'=>Nat.ble 2 es&&De r r'
 |.sl _ _ _ _::_,_=>false
 |.agg l::r,_::r'=> !MK l&&De r r'
 |_::r,_::r'=>De r r'
 |_,_=>true
def SS:List SV->Bool
 |[]=>false
 |.sl _ _ _ _::_=>true
 |_::r=>SS r
def isI:SV->Bool
 |.int _ _=>true
 |_=>false
def xM:SV->Bool
 |.bool _|.tt|.ff|.int _ _|.str _|.aq=>true
 |.bF es _ _=>Nat.beq es 1
 |_=>false
def Dn:SV->Prop
 |.bF _ n f=>∀i,i<n->(f i).all isI=true
 |_=>True
def El:List ar->Bool
 |[]=>true
 |.s v::r=>xM v&&El r
 |.a _ _ _::_=>false
def G9:List ar->Prop
 |[]=>True
 |.s v::r=>Dn v/\G9 r
 |.a _ _ _::_=>False
def Be:SV->Bool
 |.agg l=>El l
 |v=>xM v
def Co:SV->Prop
 |.agg l=>G9 l
 |v=>Dn v
def EX:List SV->Bool
 |[]=>true
 |v::r=>Be v&&EX r
def HW:List SV->Prop
 |[]=>True
 |v::r=>Co v/\HW r
def thin:SV->Bool
 |.df l=>EX l
 |v=>Be v
def Ig:SV->Prop
 |.df l=>HW l
 |v=>Co v
def Ok(N:Nat)(e:Option Tmp)(c:bB)(args b:List SV):Tx:=
 NI args b λh=>match c h with
  |some (p,r)=>match thin r with
   |true=>match e with
    |some d=>if d<N then .AU p (.AU (Ig r) (.done [(.tm d,.v r)]))else .fail
    |none=>.AU p (.AU (Ig r) (.done []))
   |false=>.fail
  |none=>.fail
def UK(N h:Nat)(C:Nat->Option bB)(i:Option Tmp)(f:Nat)(args:List SV):Tx:=
 match C f with
 |some c=>cn args λb j=>match c b with
  |some (p,r)=>match SS args&&(thin r&&De args b)with
   |true=>Ok N i c args b
   |false=>match r with
    |.Gl e es n g=>wV N h i p j e es n g (.sl h 0 0 n)
    |.df (.Gl e es n g::rs)=>wV N h i p j e es n g (.df (.sl h 0 0 n::rs))
    |r=>match i with
     |some d=>if d<N then .AU p (.done (j++[(.tm d,.v r)]))else .fail
     |none=>.AU p (.done j)
  |none=>.fail
 |none=>.fail
def Hn(P:Program)(N e:Nat)(C:Nat->Option bB)(d:Option Tmp)(c:Call):Tx:=
 match c.callee with
 |.value g=>fR g λ
  |.fn f a b=>jI c.args.toList λh=>UK N e C d f (a++h++b)
  |_=>.fail
 |.builtin b=>jI c.args.toList λh=>
  match b,h,c.argTypes.toList with
  |.len,[x],[t]=>Oh P N d t x
  |.min,[x,y],_=>oF N d (XF x y)
  |.max,[x,y],_=>oF N d (Ga x y)
  |.append,[x,y],[t,t']=>if t=t' then kY P N e d t x y else vV P N e d t t' x y
  |.copy,[x,y],[t,_]=>G7 P N d t x y
  |_,_,_=>.fail
 |_=>.fail
def kf(P:Program)(N:Nat)(C:Nat->Option bB)(nid:Nat)(o:Oper):Tx:=
 match o.op with
 |.move x|.assign x=>fR x (bm N o.dst)
 |.pick c a b=>fR c λc=>fR a λa=>fR b λb=>oF N o.dst (On c a b)
 |.extract t i=>fR t (vv N o.dst i)
 |.box _ x=>fR x (MG N nid o.dst)
 |.alloc T=>CX P N nid o.dst T
 |.load T x=>fR x (x6 P N o.dst T)
 |.store T x v=>match o.dst with
  |none=>fR x λx=>fR v λv=>BU P T x v
  |some _=>.fail
 |.fieldAddr S x f=>fR x (rp P N o.dst S f)
 |.indexAddr T x i=>fR x λx=>fR i λi=>qq P N o.dst T x i
 |.index T x i=>fR x λx=>fR i λi=>Dv P N o.dst T x i
 |.field S x f=>fR x (Dd P N o.dst S f)
 |.build T parts=>jI (parts.toList.map (·.2)) λxs=>CG P N o.dst T ((parts.toList.map (·.1)).zip xs)
 |.buildSlice T len parts=>jI (parts.toList.map (·.2)) λxs=>dS P N nid o.dst T len ((parts.toList.map (·.1)).zip xs)
 |.binOp op T x y _=>fR x λx=>fR y λy=>yp P N o.dst op T x y
 |.unOp op _ x=>fR x (PO N o.dst op)
 |.convert S D x=>fR x (yQ P N nid o.dst S D)
 |.makeSlice T l c=>fR l λx=>fR c λy=>pt P N nid o.dst T x y
 |.slice T x lo hi none=>fR x λx=>rdOpt lo λlo=>rdOpt hi λhi=>Cv P N o.dst T x lo hi
 |.slice T x none (some hi) (some mx)=>fR x λx=>fR hi λhi=>fR mx λmx=>yP P N o.dst T x hi mx
 |.makeFunc (.func f) a b=>jI a.toList λa=>jI b.toList λb=>bm N o.dst (.fn f a b)
 |.call c=>Hn P N nid C o.dst c
 |_=>.fail
 where
 rdOpt (o:Option Operand) (k:Option SV->Tx):Tx:=match o with
  |none=>k none
  |some o=>fR o λx=>k (some x)
def fW(E:Env)(P:Program)(o:Oper)(s:St)(w:World)(a:Act)(b:List (Loc×Item)):Prop:=
 ∀Q,o.wp P a w (λc d=>dL E (s.apply b) d c) Q
theorem aM(s:St)(c b:List (Loc×Item)):s.apply (c++b)=(s.apply c).apply b:=by
 induction c generalizing s with
 |nil=>rfl
 |cons x r d=>obtain⟨l,i⟩:=x;exact d _
theorem kA(s:St)(l:Loc)(x:Item):s.apply [(l,x)]=s.put l x:=rfl
theorem bc(b:Nat)(l:List ar):∀(s:St)(q:Nat)(loc:Loc),(∀c,loc≠ .sg b c)->(s.apply (bs b q l)) loc=s loc:=by
 induction l with
 |nil=>intros;rfl
 |cons x r d=>
  intro s q loc h;simp only[bs,St.apply];rw[d _ _ _ h,St.bh _ _ (h q)]
theorem tn(c:Nat)(l:List ar):∀(s:St)(q b:Nat),(s.apply (bs c q l)) (.sg c b)=match l[b-q]? with
 |some x=>if q<=b then .s x else s (.sg c b)
 |none=>s (.sg c b):=by
 induction l with
 |nil=>intros;rfl
 |cons x r h=>
  intro s q b;simp only[bs,St.apply];rw[h]
  by_cases d:b=q
  . subst d;rw[show b-(b+1)=0 from by omega,show b-b=0 from by omega];simp only[Xy,J1,JE,St.cQ,show¬(b+1<=b)from by omega,JF];cases r[0]?<;>rfl
  . by_cases k:q<b
    . have e:b-q=(b-(q+1))+1:=by omega
      rw[e,Yb];rw[St.bh _ _ (by simpa using d)];simp only[show q+1<=b from by omega,show q<=b from by omega,JE]
    . have i:b-q=0:=by omega
      have j:b-(q+1)=0:=by omega
      rw[i,j,St.bh _ _ (by simpa using d)];simp only[Xy,show¬(q+1<=b)from by omega,show¬(q<=b)from by omega,JF];cases r[0]?<;>rfl
theorem St.jY(s:St)(c q:Nat)(l:List ar)(b:Nat):(s.apply (bs c q l)).uC c b=if q<=b then(l[b-q]?).getD (s.uC c b)else s.uC c b:=by
 simp only[St.uC,tn];cases h:l[b-q]? with
 |none=>simp
 |some x=>by_cases d:q<=b<;>simp[d]
theorem aaw(s:St)(b:Nat)(l:List ar):(s.apply (bs b 0 l)).az b l.length=l:=by
 apply Xc;intro i
 by_cases h:i<l.length
 . rw[St.bL _ _ _ _ h,St.jY];simp[h]
 . rw[J7 (by simpa[St.az]using h),J7 (by omega)]
theorem St.dc{s c:St}{b n:Nat}(h:∀q,q<n->c (.sg b q)=s (.sg b q)):c.az b n=s.az b n:=by
 simp only[St.az];refine Xl λq d=>?_
 simp only[St.uC,h q (Kn.1 d)]
theorem Ui{s:St}{t:Nat}{k:SV->Tx}{ws}(h:(rdT t k).ok s ws):∃x,s (.tm t)=.v x/\(k x).ok s ws:=by
 simp only[rdT,Tx.ok]at h;split at h
 . exact⟨_,by assumption,h⟩
 . exact h.elim
theorem fG{s:St}{b:Nat}{k:lZ->Tx}{ws}(h:(DJ b k).ok s ws):∃m,s (.mt b)=.m (some m)/\(k m).ok s ws:=by
 simp only[DJ,Tx.ok]at h;split at h
 . exact⟨_,by assumption,h⟩
 . exact h.elim
theorem kC{s:St}{b:Nat}{k:Tx}{ws}(h:(oO b k).ok s ws):s (.mt b)=.m none/\k.ok s ws:=by
 simp only[oO,Tx.ok]at h;split at h
 . exact⟨by assumption,h⟩
 . exact h.elim
theorem lf{s:St}{b q:Nat}{k:ar->Tx}{ws}(h:(Dx b q k).ok s ws):∃x,s.uC b q=x/\(k x).ok s ws:=by
 simp only[Dx,Tx.ok]at h;split at h
 . rename_i x c;exact⟨x,by simp[St.uC,c],h⟩
 . exact h.elim
theorem vg{s:St}{c:Nat}:∀{n q:Nat}{k:List ar->Tx}{b},(GS c q n k).ok s b->(k ((List.range' q n).map (s.uC c))).ok s b
 |0,_,_,_,h=>h
 |n+1,q,k,b,h=>by
  obtain⟨x,d,h⟩:=lf h;have:=vg h;rw[Z7,J8,d];exact this
theorem Fy{c:RO}{b:Own}{v:Value}{x:SV}(h:Ck v=some x):Rel c b x v:=by
 unfold Ck at h;split at h<;>first
  |(obtain rfl:=Yw h;constructor)
  |cases h
def aQ(c:RO)(b:Own):List SV->List Value->Prop
 |[],[]=>True
 |x::r,v::vs=>Rel c b x v/\aQ c b r vs
 |_,_=>False
theorem aQ.length{c:RO}{b:Own}:∀{xs:List SV}{vs:List Value},aQ c b xs vs->xs.length=vs.length
 |[],[],_=>rfl
 |_::r,_::vs,h=>by simp[aQ.length (xs:=r) (vs:=vs) h.2]
 |[],_::_,h=>h.elim
 |_::_,[],h=>h.elim
theorem aQ.at{d:RO}{b:Own}:∀{e:List SV}{c:List Value},aQ d b e c->∀(i:Nat)(x:SV),e[i]?=some x->∃v,c[i]?=some v/\Rel d b x v
 |[],[],_,i,x,hx=>by simp at hx
 |y::r,v::c,h,0,x,hx=>by simp at hx;subst hx;exact⟨v,rfl,h.1⟩
 |y::r,v::c,h,i+1,x,hx=>by simp at hx;obtain⟨u,hu,j⟩:=aQ.at h.2 i x hx;exact⟨u,by simpa using hu,j⟩
 |[],_::_,h,_,_,_=>h.elim
 |_::_,[],h,_,_,_=>h.elim
theorem aQ.append{c:RO}{b:Own}:∀{d:List SV}{e:List Value}{ys us},aQ c b d e->aQ c b ys us->aQ c b (d++ys) (e++us)
 |[],[],_,_,_,h=>h
 |_::_,_::_,_,_,h,k=>⟨h.1,aQ.append h.2 k⟩
 |[],_::_,_,_,h,_=>h.elim
 |_::_,[],_,_,h,_=>h.elim
theorem aQ.mono{e c:RO}{d b:Own}(i:ga e c)(j:d.le b):∀{k:List SV}{m:List Value},aQ e d k m->aQ c b k m
 |[],[],_=>trivial
 |_::_,_::_,h=>⟨h.1.mono i j,aQ.mono i j h.2⟩
 |[],_::_,h=>h.elim
 |_::_,[],h=>h.elim
theorem aQ.IW{e:RO}{b:Own}:∀{d:List SV}{c:List Value},c.length=d.length->(∀(i:Nat)(x:SV),d[i]?=some x->Rel e b x (c.getD i undef))->aQ e b d c
 |[],[],_,_=>trivial
 |x::r,v::c,hl,h=>⟨by simpa using h 0 x rfl,aQ.IW (by simpa using hl) λi y j=>by simpa using h (i+1) y (by simpa using j)⟩
 |[],_::_,hl,_=>by simp at hl
 |_::_,[],hl,_=>by simp at hl
section
variable {E : Env} {P : Program} {ro : RO} {own : Own} {s : St} {w : World} {a : Act}
theorem aZ(h:bA E ro own s w a){o:Operand}{k:SV->Tx}{ws}(b:(fR o k).ok s ws):∃x,Rel ro own x (a.eval o)/\(k x).ok s ws:=by
 cases o with
 |tmp t=>
  obtain⟨x,c,b⟩:=Ui b;exact⟨x,h.tm t x c,b⟩
 |const v=>
  simp only[fR]at b;split at b
  . exact⟨_,Fy (by assumption),b⟩
  . exact b.elim
 |global g=>exact b.elim
 |func f=>exact⟨.fn f [] [],.fn _ _ _ _ _ _ rfl rfl (by simp) (by simp),b⟩
theorem ku(h:bA E ro own s w a):∀{os:List Operand}{k:List SV->Tx}{ws},(jI os k).ok s ws->∃c,aQ ro own c (os.map a.eval)/\(k c).ok s ws
 |[],_,_,b=>⟨[],trivial,b⟩
 |o::r,k,ws,b=>by
  obtain⟨x,e,b⟩:=aZ h b;obtain⟨c,d,b⟩:=ku h b;exact⟨x::c,⟨e,d⟩,b⟩
theorem setT_ok{b:Option Tmp}{x:SV}{ws}(c:(bm E.N b x).ok s ws):(b=none/\ws=[])\/∃d,b=some d/\d<E.N/\ws=[(.tm d,.v x)]:=by
 cases b with
 |none=>exact .inl ⟨rfl,c.symm⟩
 |some d=>
  simp only[bm]at c;split at c
  . exact .inr ⟨d,rfl,by assumption,c.symm⟩
  . exact c.elim
theorem Gc(h:bA E ro own s w a){b:Option Tmp}{x:SV}{v:Value}{ws}(c:(bm E.N b x).ok s ws)(e:Rel ro own x v):bA E ro own (s.apply ws) w (a.put b v):=by
 rcases setT_ok c with⟨rfl,rfl⟩|⟨d,rfl,i,rfl⟩
 . exact h
 . exact h.put i e
theorem aP(h:bA E ro own s w a){o:Oper}{x:SV}{v:Value}{ws}(b:(execOp a.eval o).run P w=.ok (.value v) w)(c:Rel ro own x v)(d:(bm E.N o.dst x).ok s ws):fW E P o s w a ws:=by
 intro Q;unfold Oper.wp;rw[b];exact⟨ro,own,Gc h d c⟩
theorem bA.push(h:bA E ro own s w a){d:Nat}(hf:s (.mt d)=.m none){row:Bool}{es:Nat}{l:List ar}{cs:Array Value}{e lo hi cap:Nat}{M:World}
 (hw:M.heap=w.heap.push (.cells cs e (lo,hi))) (h1:M.os=w.os) (h2:M.tape=w.tape) (h3:M.output=w.output)
 (y:Option TypeId) (O:row=true->∃n f,l=[.a n es f]/\n<=cap/\cs.size=cap*es) (bi:row=false->cs.size=aa l) (bp:aa l<=cs.size)
 (bt:hi<=lo\/aa l<=lo) (aq:∀t,y=some t->lo=0/\hi=0/\e=t/\cap<=maxLen) (aw:∀k R,flat l k=some R->Rel ro own R (cs.getD k undef)):
 ∃c,own.le c/\c.env d 0=some (some w.heap.size)/\c.cap d 0=cap/\c.st d 0=0/\c.es d 0=(match l[0]? with|some x=>x.es|none=>0)/\
  bA E ro c (s.apply ((.mt d,.m (some ⟨0,false,row,y,l.length,es,if row then []else l.map ar.shape⟩))::bs d 0 l)) M a:=by
 have K:M.heap.size=w.heap.size+1:=by rw[hw,Array.size_push]
 have ax:M.heap[w.heap.size]?=some (.cells cs e (lo,hi)):=by rw[hw,Qv,JB rfl]
 have B:∀k,k≠w.heap.size->M.heap[k]?=w.heap[k]?:=λk hk=>by rw[hw,Qv,JA hk]
 let c:Own:={env:=λid j=>if id=d then(if j=0 then some (some w.heap.size)else none)else own.env id j,cap:=λid j=>if id=d then cap else own.cap id j,st:=λid q=>if id=d then aa (l.take q)else own.st id q,es:=λid q=>if id=d then(match l[q]? with|some x=>x.es|none=>0)else own.es id q}
 have bv:∀id j x,own.env id j=some x->id≠d:=by
  rintro id j x H rfl;rw[h.fr id hf j]at H;cases H
 have C:own.le c:=by
  refine⟨λid j x H=>?_,λid j x H=>?_,λid j x q H=>?_,λid j x q H=>?_⟩<;>simp[c,bv id j x H,H]
 have ac:∀b o v,eb w b o v->eb M b o v:=by
  intro b o v hv;have u:=block_lt_of_cell hv.1;simp only at u;exact hv.of_heap (B b (by omega))
 have ad:∀id n,id≠d->(s.apply ((.mt d,.m (some ⟨0,false,row,y,l.length,es,if row then []else l.map ar.shape⟩))::bs d 0 l)).az id n=s.az id n:=by
  intro id n i;refine St.dc λq _=>?_
  simp only[St.apply];rw[bc _ _ _ _ _ (by intro q';simp[i]),St.bh _ _ (by simp)]
 have z:∀id,id≠d->(s.apply ((.mt d,.m (some ⟨0,false,row,y,l.length,es,if row then []else l.map ar.shape⟩))::bs d 0 l)) (.mt id)=s (.mt id):=by
  intro id i;simp only[St.apply];rw[bc _ _ _ _ _ (by simp),St.bh _ _ (by simpa using i)]
 have D:(s.apply ((.mt d,.m (some ⟨0,false,row,y,l.length,es,if row then []else l.map ar.shape⟩))::bs d 0 l)) (.mt d)=.m (some ⟨0,false,row,y,l.length,es,if row then []else l.map ar.shape⟩):=by
  simp only[St.apply];rw[bc _ _ _ _ _ (by simp),St.cQ]
 have bz:(s.apply ((.mt d,.m (some ⟨0,false,row,y,l.length,es,if row then []else l.map ar.shape⟩))::bs d 0 l)).az d l.length=l:=by
  simp only[St.apply];exact aaw _ _ _
 have al:∀id m b,s (.mt id)=.m (some m)->m.zW=false->own.env id m.aD=some (some b)->b<w.heap.size:=by
  intro id m b p ay u;obtain⟨bb,e',bd,be,hh,_⟩:=((h.gK id m p).live b u ay).body;exact(K3.1 hh).1
 refine⟨c,C,by simp[c],by simp[c],by simp[c,aa],by simp[c],?_⟩;refine {below:=?_,base:=by rw[K];exact Jn h.base (Nat.le_succ _),defs:=h.defs,size:=h.size,tm:=?_,cJ:=λb o v hv=>ac b o v (h.cJ b o v hv),uU:=h.uU,gK:=?_,fr:=?_,mY:=?_,inj:=?_,kk:=E.mono _ _ _ _ C (.refl _) h.kk,mp:=h.mp' (.refl _) C (λid m h1 h2=>by
  by_cases i:id=d
  . subst i;rw[D]at h1;simp only[Item.m.injEq,J3]at h1;subst h1;simp[cz]at h2
  . rw[z id i]at h1;refine⟨h1,λn e f h3=>?_⟩;simp only[St.apply]at h3;rw[bc _ _ _ _ _ (by intro q';simp[i]),St.bh _ _ (by simp)]at h3;exact h3) (λb o _ _ h5=>by rw[B b (Nat.ne_of_lt (K3.1 h5).1)];exact h5)}
 . exact h.below.trans ⟨h1,h2,h3,by rw[K];omega,λk hk=>B k (by have:=h.base;omega)⟩
 . intro t R ht;have e1:(s.apply ((.mt d,.m (some ⟨0,false,row,y,l.length,es,if row then []else l.map ar.shape⟩))::bs d 0 l)) (.tm t)=s (.tm t):=by
    simp only[St.apply];rw[bc _ _ _ _ _ (by simp),St.bh _ _ (by simp)]
   rw[e1]at ht;exact(h.tm t R ht).own C
 . intro id m p
   by_cases i:id=d
   . subst i;rw[D]at p;simp only[Item.m.injEq,J3]at p;subst p;rw[bz];refine {st:=λq _=>by simp[c],es:=λq x H=>by simp[c,H],row:=?_,plain:=?_,there:=⟨some w.heap.size,by simp[c]⟩,nil:=λX=>by simp[c]at X,live:=?_,dn:=λb _ N=>by cases N}
     . intro J;obtain⟨n,f,L,X,_⟩:=O J;exact⟨n,f,L,λb _=>by simpa[c]using X⟩
     . intro J;simp only at J;exact⟨rfl,by simp[J]⟩
     . intro b u _;simp only[c,JE,J3]at u;subst u;refine⟨h.base,λo=>?_,cs,e,lo,hi,ax,bt,(λt ht=>by obtain⟨p1,p2,p3,p4⟩:=aq t ht;exact⟨p1,p2,p3,by simpa[c]using p4⟩),bp,λk R hk=>(aw k R hk).own C,λJ=>bi J,λJ=>?_⟩
       . cases bF:ro w.heap.size o with
         |none=>rfl
         |some v=>
          have:=block_lt_of_cell (h.cJ _ _ _ bF).1;simp at this
       . obtain⟨n,f,L,X,hc⟩:=O J;rw[hc,L];simp[c,L,ar.es]
   . rw[z id i]at p;rw[ad id m.ns i];have Z:=h.gK id m p;obtain⟨x0,bL⟩:=Z.there;have e0:∀j,c.env id j=own.env id j:=λj=>by simp[c,i]
     have e1:∀q,c.st id q=own.st id q:=λq=>by simp[c,i]
     have e2:∀q,c.es id q=own.es id q:=λq=>by simp[c,i]
     have e3:∀j,c.cap id j=own.cap id j:=λj=>by simp[c,i]
     refine {st:=λq hq=>by rw[e1];exact Z.st q hq,es:=λq x H=>by rw[e2];exact Z.es q x H,row:=λJ=>?_,plain:=Z.plain,there:=⟨x0,by rw[e0];exact bL⟩,nil:=λX=>Z.nil (by rw[<-e0];exact X),live:=λb u N=>?_,dn:=λb u N=>Z.dn b (by rw[<-e0];exact u) N}
     . obtain⟨n,f,L,X⟩:=Z.row J;exact⟨n,f,L,λb u=>by rw[e3];exact X b (by rw[<-e0];exact u)⟩
     . rw[e0]at u;have L:=Z.live b u N;have F:=al id m b p N u;obtain⟨bb,e',bd,be,hh,r1,r2,r3,r4,r5,r6⟩:=L.body;exact⟨L.low,L.apart,bb,e',bd,be,by rw[B b (by omega)];exact hh,r1,(λt ht=>by rw[e3];exact r2 t ht),r3,λk R hk=>(r4 k R hk).own C,r5,λJ=>by rw[e3,e2];exact r6 J⟩
 . intro id p j
   by_cases i:id=d
   . subst i;rw[D]at p;cases p
   . rw[z id i]at p;simp only[c,i,JF];exact h.fr id p j
 . intro id m p j hv
   by_cases i:id=d
   . subst i;rw[D]at p;simp only[Item.m.injEq,J3]at p;subst p;simp only at hv;simp[c,show j≠0 by omega]
   . rw[z id i]at p;simp only[c,i,JF];exact h.mY id m p j hv
 . intro id G m m' b p A N bf u F
   by_cases i:id=d
   . by_cases r:G=d
     . rw[i,r]
     . rw[z G r]at A;subst i;rw[D]at p;simp only[Item.m.injEq,J3]at p;subst p;simp only[c,JE,J3]at u;simp only[c,r,JF]at F;have:=al G m' b A bf F;omega
   . rw[z id i]at p;simp only[c,i,JF]at u
     by_cases r:G=d
     . subst r;rw[D]at A;simp only[Item.m.injEq,J3]at A;subst A;simp only[c,JE,J3]at F;have:=al id m b p N u;omega
     . rw[z G r]at A;simp only[c,r,JF]at F;exact h.inj id G m m' b p A N bf u F
end
end Go.Sx
namespace Go.Sx
open Go Go.RowKit
variable [bW]
def dw(b:Array Value)(k:Nat):List Value->Array Value
 |[]=>b
 |v::r=>dw (b.setIfInBounds k v) (k+1) r
theorem jn(c:List Value):∀(b:Array Value)(k:Nat),(dw b k c).size=b.size:=by
 induction c with
 |nil=>intros;rfl
 |cons v r d=>intro b k;simp only[dw];rw[d,Yc]
theorem jl(b:List Value):∀(c:Array Value)(k j:Nat),k+b.length<=c.size->(dw c k b).getD j undef=if k<=j/\j<k+b.length then b.getD (j-k) undef else c.getD j undef:=by
 induction b with
 |nil=>intro c k j _;simp[dw];intro h d;omega
 |cons v r i=>
  intro c k j e;simp only[Jc]at e;simp only[dw,Jc];rw[i _ _ _ (by rw[Yc];omega)]
  by_cases h:j=k
  . subst h;rw[JA (by omega),JB (by omega),Jf,Yi (by omega)];simp
  . by_cases d:k<=j/\j<k+(r.length+1)
    . rw[JB (by omega),JB d,show j-k=(j-(k+1))+1 from by omega,Zb]
    . rw[JA (by omega),JA d,Jf,Ya (by omega),<-Array.getD_eq_getD_getElem?]
def gO(w:World)(b:Nat)(c:Array Value)(e:TypeId)(d h:Nat):World:={w with heap:=w.heap.setIfInBounds b (.cells c e (d,h))}
theorem HV{w:World}{b:Nat}{d:Array Value}{e:TypeId}{j c:Nat}(h:w.heap[b]?=some (.cells d e (j,c))):gO w b d e j c=w:=by
 have:w.heap.setIfInBounds b (.cells d e (j,c))=w.heap:=by
  apply Xz;intro i;rw[Yd];split
  . rename_i c;subst c;obtain⟨k,m⟩:=K3.1 h;simp[k,m]
  . rfl
 simp[gO,this]
theorem BA{w:World}{b:Nat}{j c:Array Value}{e:TypeId}{d i:Nat}(h:w.heap[b]?=some (.cells j e (d,i))):(gO w b c e d i).heap[b]?=some (.cells c e (d,i)):=by
 have k:=(K3.1 h).1;simp[gO,k]
theorem uI{w:World}{b k:Nat}{c:Array Value}{e:TypeId}{d i:Nat}(h:k≠b):(gO w b c e d i).heap[k]?=w.heap[k]?:=by
 simp[gO,Ya (Yv h)]
theorem xW{w:World}{b:Nat}{c:Array Value}{e:TypeId}{d h:Nat}:(gO w b c e d h).heap.size=w.heap.size:=by simp[gO]
theorem Ef{w:World}{b:Nat}{j c:Array Value}{e:TypeId}{d h:Nat}:gO (gO w b j e d h) b c e d h=gO w b c e d h:=by
 simp only[gO]
 congr 1
 apply Xz;intro i;simp only[Yd,Yc];split<;>rfl
theorem Ar{w:World}{b k:Nat}{d:Array Value}{e:TypeId}{j c:Nat}(v:Value)(h:w.heap[b]?=some (.cells d e (j,c))):w.setCell ⟨b,k,none⟩ v=gO w b (d.setIfInBounds k v) e j c:=by
 simp only[World.setCell,gO]
 congr 1
 apply Xz;intro i;rw[Zc,Yd];split
 . rename_i c;subst c;obtain⟨m,o⟩:=K3.1 h;simp[m,o]
 . rfl
theorem qI{P:Program}{b c:Nat}{e:TypeId}{j o:Nat}:∀(k:List Value)(i:Nat)(w:World)(d:Array Value),w.heap[b]?=some (.cells d e (j,o))->(∀v∈k,v.oneCell'=true)->c+i+k.length<=d.size->
 (o<=j\/c+i+k.length<=j)->(storeCells ⟨b,c,none⟩ k i).run P w=.ok () (gO w b (dw d (c+i) k) e j o)
 |[],i,w,d,h,_,_,_=>by simp[storeCells,dw,HV h]
 |v::r,i,w,d,h,h1,h2,p=>by
  simp only[Jc]at h2 p;have m:(⟨b,c,none⟩:Addr).add i=⟨b,c+i,none⟩:=by
   unfold Addr.add;split
   . rename_i x;simp
   . rfl
  have y:w.cell? ⟨b,c+i,none⟩=some d[c+i]:=by
   simp[World.cell?,h,show c+i<d.size by omega]
  have z:w.frozen? ⟨b,c+i,none⟩=false:=by
   simp only[World.frozen?,h];rcases p with p|p
   . simp;omega
   . simp;omega
  have q:(store ⟨b,c+i,none⟩ v).run P w=.ok () (gO w b (d.setIfInBounds (c+i) v) e j o):=by
   rw[run_store P w _ v _ (h1 v (by simp))];simp[y,z,Ar v h]
  simp only[storeCells,m,Sem.run_bind,q,Result.andThen_ok,dw];rw[qI r (i+1) _ _ (BA h) (λu hu=>h1 u (by simp[hu])) (by rw[Yc];omega) (by omega),Ef];rfl
theorem zx{P:Program}{w:World}{b c n:Nat}{k:Nat->Value}(h:∀j,j<n->w.cell? ⟨b,c+j,none⟩=some (k j)):(loadCells ⟨b,c,none⟩ n).run P w=.ok (Array.ofFn λj:Fin n=>k j) w:=by
 have e:∀i,(⟨b,c,none⟩:Addr).add i=⟨b,c+i,none⟩:=by
  intro i;unfold Addr.add;split
  . rename_i p;simp
  . rfl
 have gen:∀(m i:Nat)(d:Array Value),i+m=n->d=Array.ofFn (λj:Fin i=>k j)->(loadCellsFrom ⟨b,c,none⟩ i m d).run P w=.ok (Array.ofFn λj:Fin n=>k j) w:=by
  intro m
  induction m with
  |zero=>
   intro i d q o;have:i=n:=by omega
   subst this;simp[loadCellsFrom,o]
  |succ m r=>
   intro i d q o;simp only[loadCellsFrom,e,Sem.run_bind,run_load,h i (by omega),Result.andThen_ok];refine r (i+1) _ (by omega) ?_;rw[o];apply Array.ext
   . simp
   . intro j u x;simp only[Array.size_push,Array.size_ofFn]at u;simp only[Array.getElem_push,Array.size_ofFn,Array.getElem_ofFn];split
     . rfl
     . have:j=i:=by omega
       simp[this]
 exact gen n 0 #[] (by omega) (by simp)
theorem row_rel{c:RO}{b:Own}{x:SV}{v:Value}(h:Rel c b x v)(d:LZ x=true):v.oneCell'=true:=by
 cases h<;>first|rfl|cases d
theorem gk{c:RO}{b:Own}{x:SV}{v:Value}(h:Rel c b x v)(d:ib x=true):v.oneCell'=true:=by
 cases h<;>first|assumption|rfl|exact row_rel ‹_› (bW.row _)|cases d
theorem Bz{v:Value}(h:v.oneCell'=true):v.cells= #[v]:=by
 cases v<;>first|rfl|cases h
section
variable {E : Env} {P : Program} {ro : RO} {own : Own} {s : St} {w : World} {a : Act}
theorem sE{l b:List ar}(h:l.map ar.shape=b.map ar.shape):aa l=aa b:=by
 induction l generalizing b with
 |nil=>cases b with
  |nil=>rfl
  |cons _ _=>simp at h
 |cons x r c=>
  cases b with
  |nil=>simp at h
  |cons y d=>
   simp only[J8,Qw]at h;simp only[aa,c h.2];have:x.size=y.size:=by
    have e:=h.1;cases x<;>cases y<;>simp[ar.shape,ar.size]at e⊢
    rw[e.1,e.2]
   omega
theorem GQ{l b:List ar}(h:l.map ar.shape=b.map ar.shape)(q:Nat):(l.take q).map ar.shape=(b.take q).map ar.shape:=by
 rw[List.map_take,List.map_take,h]
theorem OV{l b:List ar}(h:l.map ar.shape=b.map ar.shape){q:Nat}{x c:ar}(i:l[q]?=some x)(d:b[q]?=some c):x.es=c.es:=by
 have e:(l.map ar.shape)[q]?=(b.map ar.shape)[q]?:=by rw[h]
 simp only[J5,i,d,K4,J3]at e;cases x<;>cases c<;>simp[ar.shape,ar.es]at e⊢
 exact e.2
theorem bA.U3(h:bA E ro own s w a){z b:Nat}{m:lZ}{cs:Array Value}{e:TypeId}{lo A:Nat}(hm:s (.mt z)=.m (some m))(hz:m.zW=false)(hb:own.env z m.aD=some (some b))(hh:w.heap[b]?=some (.cells cs e (lo,A)))
 {F:Array Value} (J:F.size=cs.size) {G:St} (j:∀l,(∀q,l≠ .sg z q)->G l=s l) (c:(G.az z m.ns).map ar.shape=(s.az z m.ns).map ar.shape)
 (R:∀k sv,flat (G.az z m.ns) k=some sv->Rel ro own sv (F.getD k undef)):bA E ro own G (gO w b F e lo A) a:=by
 have he:=h.gK z m hm;have X:=he.live b hb hz;have B:∀i,G (.mt i)=s (.mt i):=λi=>j _ (by simp)
 have Z:∀i n,i≠z->G.az i n=s.az i n:=λi n A=>St.dc λq _=>j _ (by simp[A])
 refine {below:=?_,base:=by rw[xW];exact h.base,defs:=h.defs,size:=h.size,tm:=?_,cJ:=?_,uU:=h.uU,gK:=?_,fr:=?_,mY:=?_,inj:=?_,kk:=h.kk,mp:=h.mp' (.refl _) (.refl _) (λi m' K h2=>by
  rw[B]at K;have r:i≠z:=by
   rintro rfl;rw[hm]at K;cases K;simp[cz,hz]at h2
  refine⟨K,λn e f h3=>?_⟩;rw[j _ (by simp[r])]at h3;exact h3) (λu o _ ad h5=>by
   have r:u≠b:=by rintro rfl;rw[hh]at h5;simp at h5;exact ad _ _ _ h5.symm
   rw[uI r];exact h5)}
 . exact h.below.trans ⟨rfl,rfl,rfl,by rw[xW];exact J1 _,λk hk=>uI (by have:=X.low;omega)⟩
 . intro t sv ht;rw[j _ (by simp)]at ht;exact h.tm t sv ht
 . intro u o v hv;have r:u≠b:=by
    rintro rfl;rw[X.apart o]at hv;cases hv
   exact(h.cJ u o v hv).of_heap (uI r)
 . intro i m' y;rw[B]at y;have d:=h.gK i m' y
   by_cases L:i=z
   . subst L;rw[hm]at y;simp only[Item.m.injEq,J3]at y;subst y;have M:=sE c;refine {st:=λq hq=>by rw[d.st q hq];exact(sE (GQ c q)).symm,es:=?_,row:=?_,plain:=λH=>⟨(d.plain H).1,by rw[c];exact(d.plain H).2⟩,there:=d.there,nil:=(λhn=>by rw[hb]at hn;cases hn),live:=?_,dn:=(λu _ C=>by rw[hz]at C;cases C)}
     . intro q x hx;have ac:(G.az i m.ns).length=(s.az i m.ns).length:=by simp[St.dX]
       have hq:q<(s.az i m.ns).length:=by rw[<-ac];exact(Jb.1 hx).1
       rw[d.es q _ (J4 hq)];exact(OV c hx (J4 hq)).symm
     . intro H;obtain⟨n,f,D,hn⟩:=d.row H;rw[D]at c;obtain⟨O,f',hx,al⟩:∃O f',G.az i m.ns=[.a O m.es f']/\O=n:=by
        generalize G.az i m.ns=l1 at c
        match l1,c with
        |[.a O es' f'],hsh=>
         simp[ar.shape]at hsh;exact⟨O,f',by rw[hsh.2],hsh.1⟩
       exact⟨O,f',hx,λu p=>by rw[al];exact hn u p⟩
     . intro u p _;rw[hb]at p;simp only[J3]at p;subst p;obtain⟨aq,e0,aw,ax,N,r1,r2,r3,r4,r5,r6⟩:=X.body;rw[hh]at N;simp only[J3,Obj.cells.injEq,Q4]at N;obtain⟨rfl,rfl,rfl,rfl⟩:=N;exact⟨X.low,X.apart,F,e,lo,A,BA hh,by rw[M];exact r1,r2,by rw[M,J];exact r3,R,λH=>by rw[M,J];exact r5 H,λH=>by rw[J];exact r6 H⟩
   . rw[Z i _ L];refine {st:=d.st,es:=d.es,row:=d.row,plain:=d.plain,there:=d.there,nil:=d.nil,live:=?_,dn:=d.dn};intro u p C;have D:=d.live u p C;have r:u≠b:=by
      rintro rfl;exact L (h.inj i z m' m u y hm C hz p hb)
     exact⟨D.low,D.apart,by rw[uI r];exact D.body⟩
 . intro i A;rw[B]at A;exact h.fr i A
 . intro i m' A;rw[B]at A;exact h.mY i m' A
 . intro i i' m1 m2 u K h2;rw[B]at K h2;exact h.inj i i' m1 m2 u K h2
end
end Go.Sx
namespace Go.Sx
open Go Go.RowKit
variable [bW]
theorem qF{P:Program}{t:TypeId}{i:TypeInfo}(h:P.info? t=some i)(w:World):(typeInfo t).run P w=.ok i w:=by
 simp[typeInfo,h]
theorem aS{P:Program}{t:TypeId}{n:Nat}(h:cw P t=some n)(w:World):(sizeOf t).run P w=.ok n w:=by
 simp only[cw,Jp]at h;obtain⟨i,b,rfl⟩:=h;simp[sizeOf,qF b]
theorem nT{P:Program}{t:TypeId}{b:Bool}(h:bZ P t=some b)(w:World):(isAgg t).run P w=.ok b w:=by
 unfold bZ at h;unfold isAgg;split at h
 . rename_i hu;simp at h;subst h;simp[run_underlying hu]
 . rename_i hu;simp at h;subst h;simp[run_underlying hu]
 . rename_i d c e hu;simp at h;subst h;simp only[Sem.run_bind,run_underlying hu,Result.andThen_ok];cases d<;>first|rfl|exact(c _ rfl).elim|exact(e _ _ rfl).elim
 . cases h
theorem dU(b o i:Nat):(⟨b,o,none⟩:Addr).add i=⟨b,o+i,none⟩:=by
 unfold Addr.add;split
 . rename_i c;simp
 . rfl
theorem ve(n:Nat)(f:Nat->Value)(j:Nat)(h:j<n):(Array.ofFn λi:Fin n=>f i).getD j undef=f j:=by
 simp[Array.getD,h]
theorem cC(v:SV)(r:List ar):flat (.s v::r) 0=some v:=rfl
theorem cB(v:SV)(r:List ar)(k:Nat):flat (.s v::r) (k+1)=flat r k:=by
 show(if k+1<1 then _ else flat r (k+1-1))=_
 rw[JA (by omega)];rfl
theorem cy{n b:Nat}{f:Nat->List SV}{r:List ar}{k:Nat}(h:k<n*b):flat (.a n b f::r) k=(f (k/b))[k%b]?:=by
 have:flat (.a n b f::r) k=(ar.a n b f).at k:=JB h;rw[this];exact JB h
theorem gZ{n b:Nat}{f:Nat->List SV}{r:List ar}{k:Nat}(h: ¬k<n*b):flat (.a n b f::r) k=flat r (k-n*b):=JA h
section
variable {ro : RO} {own : Own} {v : Value}
theorem nX(h:Rel ro own .tt v):v=.bool true:=by cases h;rfl
theorem qD(h:Rel ro own .ff v):v=.bool false:=by cases h;rfl
theorem jJ{b:Bool}(h:Rel ro own (.bool b) v):v=.bool b:=by cases h;rfl
theorem aK{k:IntKind}{n:Int}(h:Rel ro own (.int k n) v):v=.int k n:=by cases h;rfl
theorem dR{x:List UInt8}(h:Rel ro own (.str x) v):v=.string ⟨x.toArray⟩:=by cases h;rfl
theorem gh(h:Rel ro own .aq v):v=.slice none 0 0:=by cases h;rfl
theorem cU{l:List ar}(h:Rel ro own (.agg l) v):∃b:Array Value,v=.agg b/\b.size=aa l/\∀(k:Nat)(c:SV),flat l k=some c->Rel ro own c (b.getD k undef):=by
 cases h;exact⟨_,rfl,by assumption,by assumption⟩
theorem jt{l:List SV}(h:Rel ro own (.df l) v):∃b:Array Value,v=.tuple b/\b.size=l.length/\∀(i:Nat)(c:SV),l[i]?=some c->Rel ro own c (b.getD i undef):=by
 cases h;exact⟨_,rfl,by assumption,by assumption⟩
theorem JI{c q:Nat}(h:Rel ro own (.ptr c q) v):∃b,own.env c 0=some (some b)/\v=.pointer (some ⟨b,own.st c q,none⟩):=by
 cases h;exact⟨_,by assumption,rfl⟩
theorem tI{c d q i j:Nat}(h:Rel ro own (.su c d q i j) v):∃b,own.env c d=some (some b)/\v=.pointer (some ⟨b,own.st c q+i*own.es c q+j,none⟩):=by
 cases h;exact⟨_,by assumption,rfl⟩
theorem fH{e i c d:Nat}(h:Rel ro own (.sl e i c d) v):(∃b,own.env e i=some (some b)/\c+d<=own.cap e i/\v=.slice (some ⟨b,c*own.es e 0,none⟩) d (own.cap e i-c))\/
 (own.env e i=some none/\d=0/\c=0/\v=.slice none 0 0):=by
 cases h
 . exact .inl ⟨_,by assumption,by assumption,rfl⟩
 . exact .inr ⟨by assumption,by assumption,by assumption,rfl⟩
theorem dE{d c:Nat}{f:Nat->List SV}(h:Rel ro own (.bF d c f) v):(c=0/\∃a cap,v=.slice a 0 cap)\/
 ∃(b e cap:Nat)(m:Nat->Value),v=.slice (some ⟨b,e,none⟩) c cap/\c<=cap/\(∀i,i<c->(f i).length=d)/\(∀k,k<c*d->ro b (e+k)=some (m k))/\(∀(i j:Nat)(o:SV),i<c->(f i)[j]?=some o->Rel ro Own.empty o (m (i*d+j))):=by
 cases h
 . exact .inl ⟨by assumption,_,_,rfl⟩
 . exact .inr ⟨_,_,_,_,rfl,by assumption,by assumption,by assumption,by assumption⟩
theorem wT{d c i j:Nat}{f:Nat->List SV}(h:Rel ro own (.rA d c f i j) v):
 ∃(b e:Nat)(m:Nat->Value),v=.pointer (some ⟨b,e+i*d+j,none⟩)/\i<c/\(∀i,i<c->(f i).length=d)/\(∀k,k<c*d->ro b (e+k)=some (m k))/\(∀(i j:Nat)(o:SV),i<c->(f i)[j]?=some o->Rel ro Own.empty o (m (i*d+j))):=by
 cases h;exact⟨_,_,_,rfl,by assumption,by assumption,by assumption,by assumption⟩
theorem Hc{f:Nat}{a b:List SV}(h:Rel ro own (.fn f a b) v):∃c d:Array Value,v=.func (.func f) c d/\aQ ro own a c.toList/\aQ ro own b d.toList:=by
 cases h with
 |fn=>
  rename_i c d j k m o;refine⟨c,d,rfl,aQ.IW (by simpa using j) (λi x e=>?_),aQ.IW (by simpa using m) (λi x e=>?_)⟩
  . simpa[Jf,J0]using k i x e
  . simpa[Jf,J0]using o i x e
end
section
variable {E : Env} {P : Program} {ro : RO} {own : Own} {s : St} {w : World} {a : Act}
theorem jv{c:Bool}{x y:SV}{v:Value}(b:c=true->Rel ro own x v)(d:c=false->Rel ro own y v):Rel ro own (dY c x y) v:=by
 cases c with
 |true=>
  have h:=b rfl;cases x<;>cases y<;>simp only[dY,JE]<;>first
   |exact .any _ _
   |exact h
   |(split<;>first|exact .any _ _|exact h|(cases h;constructor))
   |(cases h;exact .fe _ _ _ _ _ _ rfl)
   |(cases h;constructor)
 |false=>
  have h:=d rfl;cases x<;>cases y<;>simp only[dY,Jr,JF,Bool.not_false]<;>first
   |exact .any _ _
   |exact h
   |(split<;>first|exact .any _ _|(rename_i e;subst e;first|exact h|(cases h;constructor)))
   |(cases h;exact .fe _ _ _ _ _ _ rfl)
   |(cases h;constructor)
theorem m8{c:Bool}:∀{b d:List SV}{j:Nat}{z:SV},(af c b d)[j]?=some z->∃x y,b[j]?=some x/\d[j]?=some y/\z=dY c x y
 |x::r,y::r',0,z,h=>by simp[af]at h;exact⟨x,y,rfl,rfl,h.symm⟩
 |x::r,y::r',j+1,z,h=>by simp[af]at h;simpa using m8 h
 |[],_,_,_,h=>by simp[af]at h
 |_::_,[],_,_,h=>by simp[af]at h
theorem ES(h:bA E ro own s w a){o:Oper}{x:Operand}(b:o.op=.move x\/o.op=.assign x){ws}(c:(fR x (bm E.N o.dst)).ok s ws):fW E P o s w a ws:=by
 obtain⟨e,d,c⟩:=aZ h c;refine aP h (v:=a.eval x) ?_ d c;unfold execOp;rcases b with b|b<;>simp only[b]<;>rfl
theorem xj{x:SV}{v:Value}{b:Bool}(h:Rel ro own x v)(c:Lz x=some b):v=.bool b:=by
 cases h<;>simp[Lz]at c<;>simp[c]
theorem OC(h:bA E ro own s w a){o:Oper}{c x y:Operand}(q:o.op=.pick c x y){ws}(d:(fR c λc=>fR x λx=>fR y λy=>oF E.N o.dst (On c x y)).ok s ws):fW E P o s w a ws:=by
 obtain⟨B,j,d⟩:=aZ h d;obtain⟨C,m,d⟩:=aZ h d;obtain⟨D,p,d⟩:=aZ h d;unfold oF at d;split at d
 case h_2=>exact d.elim
 rename_i z i;have key:∃b,a.eval c=.bool b/\Rel ro own z (if b then a.eval x else a.eval y):=by
  unfold On at i;split at i
  . simp at i;subst i;exact⟨true,nX j,by simpa using m⟩
  . simp at i;subst i;exact⟨false,qD j,by simpa using p⟩
  . rename_i r b u;simp at i;subst i;refine⟨_,jJ j,jv (λe=>?_) (λe=>?_)⟩
    . rw[JB e];exact m
    . rw[JA (by simp[e])];exact p
  . cases i
 obtain⟨b,A,k⟩:=key;refine aP h (v:=if b then a.eval x else a.eval y) ?_ k d;unfold execOp;simp[q,A,asBool]
theorem Gh(h:bA E ro own s w a){o:Oper}{x:Operand}{i:Nat}(e:o.op=.extract x i){ws}(b:(fR x (vv E.N o.dst i)).ok s ws):fW E P o s w a ws:=by
 obtain⟨r,j,b⟩:=aZ h b;unfold vv at b;split at b
 case h_2=>exact b.elim
 rename_i l;split at b
 case h_2=>exact b.elim
 rename_i z c;obtain⟨d,k,m,p⟩:=jt j;have q:i<d.size:=by rw[m];exact(Jb.1 c).1
 refine aP h (v:=d.getD i undef) ?_ (p i z c) b;unfold execOp;simp[e,k,Instr.extract,q]
theorem Pa{N c:Nat}{e:Option Tmp}{h:Bool}{i:Option TypeId}{j:Nat}{l:List ar}{x:SV}{ws}(b:(uf N c e h i j l x).ok s ws):∃d,e=some d/\d<N/\s (.mt c)=.m none/\ws=lO c h i j l++[(.tm d,.v x)]:=by
 unfold uf at b;split at b
 case h_2=>exact b.elim
 rename_i d;split at b
 case isFalse=>exact b.elim
 obtain⟨k,b⟩:=kC b;exact⟨d,rfl,by assumption,k,b.symm⟩
theorem qU(h:bA E ro own s w a){o:Oper}{c:Nat}{row:Bool}{i:Option TypeId}{es cap:Nat}{l:List ar}{x:SV}{v:Value}{cs:Array Value}{e:TypeId}{w':World}{lo hi:Nat}
 (B:w'.heap=w.heap.push (.cells cs e (lo,hi))) (C:w'.os=w.os) (D:w'.tape=w.tape) (F:w'.output=w.output)
 (j:(execOp a.eval o).run P w=.ok (.value v) w')
 (m:row=true->∃n f,l=[.a n es f]/\n<=cap/\cs.size=cap*es) (r:row=false->cs.size=aa l) (u:aa l<=cs.size) (y:hi<=lo\/aa l<=lo) (p:∀t,i=some t->lo=0/\hi=0/\e=t/\cap<=maxLen)
 (q:∀k A,flat l k=some A->Rel ro own A (cs.getD k undef))
 (G:∀b:Own,b.env c 0=some (some w.heap.size)->b.cap c 0=cap->b.st c 0=0->(b.es c 0=match l[0]? with|some x=>x.es|none=>0)->Rel ro b x v)
 {ws} (H:(uf E.N c o.dst row i es l x).ok s ws):fW E P o s w a ws:=by
 obtain⟨d,J,z,K,rfl⟩:=Pa H;obtain⟨b,L,M,O,R,X,Z⟩:=h.push K (row:=row) (es:=es) (cap:=cap) B C D F i m r u y p q;intro Q;unfold Oper.wp;rw[j];show dL E _ w' (a.put o.dst v)
 rw[J,aM,kA];exact⟨ro,b,Z.put z (G b M O R X)⟩
theorem snd_box(h:bA E ro own s w a){o:Oper}{d:Nat}{T:TypeId}{x:Operand}(m:o.op=.box T x){ws}(b:(fR x (MG E.N d o.dst)).ok s ws):fW E P o s w a ws:=by
 obtain⟨B,i,b⟩:=aZ h b;unfold MG at b;split at b
 case h_2=>exact b.elim
 rename_i l c;have key:(a.eval x).cells.size=aa l/\∀k j,flat l k=some j->Rel ro own j ((a.eval x).cells.getD k undef):=by
  unfold ln at c;split at c
  . rename_i C;simp at c;subst c;obtain⟨D,p,q,r⟩:=cU i;rw[p];exact⟨q,r⟩
  . rename_i F u;split at c
    . rename_i y;simp at c;subst c;rw[Bz (gk i y)];refine⟨rfl,λk j b=>?_⟩;cases k with
      |zero=>rw[cC]at b;simp at b;subst b;simpa using i
      |succ k=>rw[cB]at b;cases b
    . cases c
 refine qU h (cap:=0) (v:=.pointer (some ⟨w.heap.size,0,none⟩)) (w':=w.alloc (.cells (a.eval x).cells T)) (lo:=0) (hi:=0) rfl rfl rfl rfl ?_ (by simp) (λ_=>key.1) (by rw[key.1];exact J1 _) (.inl (J1 _)) (by simp) key.2 ?_ b
 . unfold execOp;simp[m,Instr.box,newVar,newRow]
 . intro e z _ A _;have:=Rel.ptr (ro:=ro) e d 0 w.heap.size z
   rwa[A]at this
theorem yT{v:SV}{c:Value} (h:(match v,c with
 |.int k n,.int d e=>k==d&&n==e
 |.ff,.bool b=> !b
 |.str [],.string s=>s.size==0
 |.aq,.slice none 0 0=>true
 |.km,.map none=>true
 |.Gu,.pointer none=>true
 |_,_=>false)=true):Rel ro own v c:=by
 split at h
 . simp at h;obtain⟨rfl,rfl⟩:=h;constructor
 . simp at h;subst h;constructor
 . rename_i i;simp at h;have:i=⟨([]:List UInt8).toArray⟩:=h;rw[this];exact .str _ _
 . constructor
 . constructor
 . constructor
 . cases h
theorem wC:∀{i:List SV}{b:List Value},jQ.spellsL i b=true->i.length=b.length/\∀(j:Nat)(d:SV),i[j]?=some d->Rel ro own d (b.getD j undef)
 |[],[],_=>⟨rfl,by simp⟩
 |v::r,c::b,h=>by
  simp only[jQ.spellsL,J2]at h;obtain⟨k,m⟩:=wC h.2;refine⟨by simp[k],λj d e=>?_⟩;cases j with
  |zero=>simp at e;subst e;simpa using yT h.1
  |succ j=>simp at e;simpa using m j d e
 |[],_::_,h=>by simp[jQ.spellsL]at h
 |_::_,[],h=>by simp[jQ.spellsL]at h
theorem te:∀{l:List ar}{b:List Value},jQ l b=true->b.length=aa l/\∀(k:Nat)(i:SV),flat l k=some i->Rel ro own i (b.getD k undef)
 |[],[],_=>⟨rfl,by simp[flat]⟩
 |[],_::_,h=>by simp[jQ]at h
 |.s v::r,[],h=>by simp[jQ]at h
 |.s v::r,c::b,h=>by
  simp only[jQ,J2]at h;obtain⟨x,y⟩:=te h.2;refine⟨by simp[aa,ar.size,x];omega,λk i d=>?_⟩;cases k with
  |zero=>rw[cC]at d;simp at d;subst d;simpa using yT h.1
  |succ k=>rw[cB]at d;simpa using y k i d
 |.a n es f::r,b,h=>by
  simp only[jQ,J2,JG,Js,Kn]at h;obtain⟨⟨u,m⟩,j⟩:=h;obtain⟨x,y⟩:=te j;have o:b.length=n*es+aa r:=by rw[Xd]at x;omega
  refine⟨by simp[aa,ar.size,o],λk i d=>?_⟩
  by_cases e:k<n*es
  . rw[cy e]at d;have p:0<es:=by
     rcases Jw es with u|u
     . subst u;simp at e
     . exact u
    have B:k/es<n:=by rw[K9 p];exact e
    obtain⟨D,C⟩:=wC (ro:=ro) (own:=own) (m (k/es) B);have:=C (k%es) i d;have q:k%es<es:=Ki _ p;have z:k/es*es+k%es=k:=by rw[Km];exact Q5 k es
    have A:((b.drop (k/es*es)).take es).getD (k%es) undef=b.getD k undef:=by
     simp only[J0,Q6,q,JE,Qg,z]
    rwa[A]at this
  . rw[gZ e]at d;have:=y (k-n*es) i d;have A:(b.drop (n*es)).getD (k-n*es) undef=b.getD k undef:=by
     simp only[J0,Qg];rw[show n*es+(k-n*es)=k from by omega]
    rwa[A]at this
theorem nF{T:TypeId}{l:List ar}{z:Value}(h:zeroOf P T=some (l,z)):(∀w:World,(zeroValue T).run P w=.ok z w)/\z.cells.size=aa l/\∀(k:Nat)(b:SV),flat l k=some b->Rel ro own b (z.cells.getD k undef):=by
 unfold zeroOf at h;split at h
 case h_2=>cases h
 rename_i o p _ c;split at h
 case isFalse=>cases h
 rename_i d;simp at h;obtain⟨rfl,rfl⟩:=h;obtain⟨e,j⟩:=te (ro:=ro) (own:=own) d;simp only[Xe]at c;obtain⟨i,hi,c⟩:=c;refine⟨λw=>by simp[zeroValue,qF hi,c],by simpa using e,λk b m=>?_⟩;have:=j k b m;simpa[Jf,J0]using this
theorem KX(h:bA E ro own s w a){o:Oper}{b:Nat}{T:TypeId}(i:o.op=.alloc T){ws}(d:(CX P E.N b o.dst T).ok s ws):fW E P o s w a ws:=by
 unfold CX at d;split at d
 case h_2=>exact d.elim
 rename_i l z j;obtain⟨k,e,m⟩:=nF (ro:=ro) (own:=own) j;refine qU h (cap:=0) (v:=.pointer (some ⟨w.heap.size,0,none⟩)) (w':=w.alloc (.cells z.cells T)) (lo:=0) (hi:=0) rfl rfl rfl rfl ?_ (by simp) (λ_=>e) (by rw[e];exact J1 _) (.inl (J1 _)) (by simp) m ?_ d
 . unfold execOp;simp[i,Instr.alloc,k,newVar,newRow]
 . intro c p _ q _;have:=Rel.ptr (ro:=ro) c b 0 w.heap.size p
   rwa[q]at this
end
end Go.Sx
namespace Go.Sx
open Go Go.RowKit
variable [bW]
theorem lj(l:List SV):∀k,flat (l.map .s) k=l[k]?:=by
 induction l with
 |nil=>intro k;rfl
 |cons v r b=>
  intro k;cases k with
  |zero=>rfl
  |succ k=>rw[J8,cB,b];rfl
theorem fY(l:List SV):aa (l.map .s)=l.length:=by
 induction l with
 |nil=>rfl
 |cons v r b=>simp only[J8,aa,b,ar.size,Jc];omega
theorem AZ(l:List ar)(q k:Nat):flat l (aa (l.take q)+k)=flat (l.drop q) k:=by
 conv=>lhs;rw[<-List.take_append_drop q l]
 rw[jw,Xb,JA (by omega)]
 congr 1;omega
theorem rM(l:List ar)(q:Nat):aa (l.take q)+aa (l.drop q)=aa l:=by
 rw[<-cu,Xb]
theorem gW:∀{l:List ar}{n:Nat}{b:List ar},jL l n=some b->aa b=n/\n<=aa l/\(∀k,k<n->flat b k=flat l k)
 |_,0,b,h=>by simp[jL]at h;subst h;exact⟨rfl,by omega,by intro k d;omega⟩
 |x::r,m+1,b,h=>by
  simp only[jL]at h;split at h
  case isFalse=>cases h
  rename_i o;simp only[Jp]at h;obtain⟨p,e,rfl⟩:=h;obtain⟨i,q,j⟩:=gW e;refine⟨by simp only[aa,i];omega,by simp only[aa];omega,λk d=>?_⟩;simp only[flat]
  by_cases c:k<x.size
  . simp only[c,JE]
  . simp only[c,JF];exact j _ (by omega)
 |[],_+1,_,h=>by simp[jL]at h
theorem jo:∀{l:List ar}{n:Nat}{b:List ar},kT l n=some b->aa b+n=aa l/\(∀k,flat b k=flat l (n+k))
 |l,0,b,h=>by simp[kT]at h;subst h;exact⟨by omega,λk=>by simp⟩
 |x::r,m+1,b,h=>by
  simp only[kT]at h;split at h
  case isFalse=>cases h
  rename_i d;obtain⟨e,c⟩:=jo h;refine⟨by simp only[aa];omega,λk=>?_⟩;rw[c];simp only[flat];rw[JA (by omega)]
  congr 1;omega
 |[],_+1,_,h=>by simp[kT]at h
theorem St.BL(s:St)(b n q:Nat):(List.range' q (n-q)).map (s.uC b)=(s.az b n).drop q:=by
 simp only[St.az];rw[<-List.map_drop,List.range_eq_range',List.drop_range']
 congr 2;omega
section
variable {E : Env} {P : Program} {ro : RO} {own : Own} {s : St} {w : World} {a : Act}
theorem jN{T:TypeId}(b:bZ P T=some false){A:Addr}{v:Value}(c:w.cell? A=some v):(loadVar T A).run P w=.ok v w:=by
 simp[loadVar,nT b,c]
theorem jP{T:TypeId}{n:Nat}(d:bZ P T=some true)(e:cw P T=some n){b c:Nat}{vs:Nat->Value}(h:∀j,j<n->w.cell? ⟨b,c+j,none⟩=some (vs j)):
 (loadVar T ⟨b,c,none⟩).run P w=.ok (.agg (Array.ofFn λj:Fin n=>vs j)) w:=by
 simp[loadVar,nT d,aS e,zx h]
theorem rb{T:TypeId}{n:Nat}{agg:Bool}(u:bZ P T=some agg)(y:cw P T=some n){b off:Nat}{l:List SV}{j:Nat}{x:SV}(c:oo agg n l j=some x)
 (o:∀(k:Nat)(d:SV),l[k]?=some d->∃v,w.cell? ⟨b,off+k,none⟩=some v/\Rel ro own d v):∃v,(loadVar T ⟨b,off+j,none⟩).run P w=.ok v w/\Rel ro own x v:=by
 unfold oo at c;cases agg with
 |true=>
  simp only[JE]at c;split at c
  case isFalse=>cases c
  rename_i z;simp only[J3]at c;subst c;have h:∀k,k<n->∃d,l[j+k]?=some d:=λk e=>⟨_,J4 (by omega)⟩
  refine⟨_,jP u y (vs:=λk=>(w.cell? ⟨b,off+j+k,none⟩).getD undef) λk e=>?_,?_⟩
  . obtain⟨d,p⟩:=h k e;obtain⟨v,i,_⟩:=o (j+k) d p;rw[show off+j+k=off+(j+k)from by omega,i];rfl
  . refine .agg _ _ _ ?_ λk d e=>?_
    . rw[fY];simp;omega
    . rw[lj]at e;have m:k<n:=by
       have:=(Jb.1 e).1;simp at this;omega
      have q:l[j+k]?=some d:=by
       rw[Q6,JB m,Qg]at e;exact e
      obtain⟨v,i,r⟩:=o (j+k) d q;rw[ve n (λk=>(w.cell? ⟨b,off+j+k,none⟩).getD undef) k m];rw[show off+j+k=off+(j+k)from by omega,i];exact r
 |false=>
  simp only[Jr,JF]at c;split at c
  case isFalse=>cases c
  obtain⟨v,i,r⟩:=o j x c;exact⟨v,jN u i,r⟩
theorem l6(h:bA E ro own s w a){o:Oper}{T:TypeId}{x:Operand}(c:o.op=.load T x){A:Addr}{v:Value}{y:SV}(d:a.eval x=.pointer (some A))(b:(loadVar T A).run P w=.ok v w)(e:Rel ro own y v)
 {ws} (i:(bm E.N o.dst y).ok s ws):fW E P o s w a ws:=by
 refine aP h (v:=v) ?_ e i;unfold execOp;simp[c,d,Instr.loadAt,Instr.sureAddr,b]
theorem M6(h:bA E ro own s w a){o:Oper}{T:TypeId}{x:Operand}(ho:o.op=.load T x){ws}(c:(fR x (x6 P E.N o.dst T)).ok s ws):fW E P o s w a ws:=by
 obtain⟨x',hx,c⟩:=aZ h c;unfold x6 at c;split at c
 case h_2=>exact c.elim
 rename_i agg n hT hn;split at c
 ·
  rename_i id q;obtain⟨b,hb,d⟩:=JI hx;obtain⟨m,J,c⟩:=fG c;have O:=h.gK id m J;split at c
  . exact c.elim
  rename_i r;have r:m.row=false:=by simpa using r
  obtain⟨A,ax⟩:=O.plain r;have R:own.env id m.aD=some (some b):=by rw[A];exact hb
  cases agg with
  |true=>
   simp only[JE]at c;split at c
   case isFalse=>exact c.elim
   rename_i L;have c:=vg c;rw[St.BL]at c;split at c
   case h_2=>exact c.elim
   rename_i l' ad;obtain⟨e1,e2,e3⟩:=gW ad;have al:=O.st q L;have B:∀k,k<n->∃v,w.cell? ⟨b,own.st id q+k,none⟩=some v/\∀H,flat l' k=some H->Rel ro own H v:=by
    intro k p;obtain⟨v,d,C⟩:=h.DR J R (k:=own.st id q+k) (by have:=rM (s.az id m.ns) q;omega);exact⟨v,d,λH hs=>C H (by rw[al,AZ,<-e3 k p];exact hs)⟩
   refine l6 h ho d (jP hT hn (vs:=λk=>(w.cell? ⟨b,own.st id q+k,none⟩).getD undef) λk p=>?_) (y:=.agg l') ?_ c
   . obtain⟨v,d,_⟩:=B k p;rw[d];rfl
   . refine .agg _ _ _ (by simp[e1]) λk H hs=>?_
     have p:k<n:=by rw[<-e1];exact cK hs
     obtain⟨v,d,C⟩:=B k p;rw[ve n (λk=>(w.cell? ⟨b,own.st id q+k,none⟩).getD undef) k p];simp only[d];exact C H hs
  |false=>
   simp only[Jr,JF]at c;obtain⟨y,hy,c⟩:=lf c;split at c
   case h_2=>exact c.elim
   rename_i u;split at c
   case isFalse=>exact c.elim
   rename_i L;have e:(s.az id m.ns)[q]?=some (.s u):=by rw[St.bL _ _ _ _ L,hy]
   have X:=tO e 0 (by simp[ar.size]);rw[<-O.st q L]at X;obtain⟨v,hc,C⟩:=h.cell J R X;exact l6 h ho d (jN hT hc) C c
 ·
  rename_i id aD q i j;obtain⟨b,hb,d⟩:=tI hx;obtain⟨m,J,c⟩:=fG c;have O:=h.gK id m J;split at c
  case isFalse=>exact c.elim
  rename_i aq;obtain⟨A,L⟩:=aq;rw[<-A]at hb;obtain⟨y,hy,c⟩:=lf c;split at c
  case h_2=>exact c.elim
  rename_i k es f;obtain⟨Z,c⟩:=c;split at c
  case isFalse=>exact c.elim
  rename_i D;split at c
  case h_2=>exact c.elim
  rename_i z hz;have e:(s.az id m.ns)[q]?=some (.a k es f):=by rw[St.bL _ _ _ _ L,hy]
  have aw:own.es id q=es:=by rw[O.es q _ e];rfl
  obtain⟨v,F,C⟩:=rb (ro:=ro) (own:=own) (w:=w) hT hn (b:=b) (off:=own.st id q+i*es) hz (λK H G=>by
   have ac:K<es:=by rw[<-D];exact(Jb.1 G).1
   have M:i*es+K<(ar.a k es f).size:=by
    simp only[ar.size];have:(i+1)*es<=k*es:=Jl _ Z;rw[Ji]at this;omega
   have X:=tO e (i*es+K) M;rw[lM Z ac,G,<-O.st q L]at X;obtain⟨v,d,C⟩:=h.cell J hb X;exact⟨v,by rw[Kt];exact d,C⟩)
  rw[aw]at d;exact l6 h ho d F C c
 ·
  rename_i es len f i j;obtain⟨b,k0,vs,d,Z,hl,J,hh⟩:=wT hx;split at c
  case isFalse=>exact c.elim
  rename_i D;split at c
  case h_2=>exact c.elim
  rename_i z hz;obtain⟨v,F,C⟩:=rb (ro:=ro) (own:=own) (w:=w) hT hn (b:=b) (off:=k0+i*es) hz (λK H G=>by
   have ac:K<es:=by rw[<-D];exact(Jb.1 G).1
   have M:i*es+K<len*es:=by
    have:(i+1)*es<=len*es:=Jl _ Z;rw[Ji]at this;omega
   exact⟨vs (i*es+K),by rw[Kt];exact(h.cJ _ _ _ (J _ M)).1,(hh i K H Z G).own (Own.empty_le _)⟩)
  exact l6 h ho d F C c
 . exact c.elim
theorem td:∀{l:List ar}{k:Tx}{ws},(wM l k).ok s ws->(∀n es f,ar.a n es f∈l->∀i,i<n->mF es (f i)=true)/\k.ok s ws
 |[],_,_,h=>⟨by simp,h⟩
 |.s v::r,_,_,h=>by
  obtain⟨c,d⟩:=td (l:=r) h;exact⟨λn es f b=>c n es f (by simpa using b),d⟩
 |.a n es f::r,_,_,h=>by
  obtain⟨c,d⟩:=td (l:=r) h.2;refine⟨λj e m b=>?_,d⟩;simp only[Kd,ar.a.injEq]at b;rcases b with⟨rfl,rfl,rfl⟩|b
  . exact h.1
  . exact c j e m b
theorem xS:∀{l:List ar},lC l=true->(∀n es f,ar.a n es f∈l->∀i,i<n->mF es (f i)=true)->∀k,k<aa l->∃d,flat l k=some d/\ib d=true
 |[],_,_,k,hk=>by simp[aa]at hk
 |.s v::r,h1,h2,k,hk=>by
  simp only[lC,J2]at h1;cases k with
  |zero=>exact⟨v,cC v r,h1.1⟩
  |succ k=>
   obtain⟨d,h,j⟩:=xS (l:=r) h1.2 (λn es f m=>h2 n es f (by simp[m])) k (by simp only[aa,ar.size]at hk;omega);exact⟨d,by rw[cB];exact h,j⟩
 |.a n es f::r,h1,h2,k,hk=>by
  by_cases b:k<n*es
  . have e:0<es:=by
     rcases Jw es with o|o
     . subst o;simp at b
     . exact o
    have q:k/es<n:=by rw[K9 e];exact b
    have p:=h2 n es f (by simp) (k/es) q;simp only[mF,J2,JN,Js]at p;have c:k%es<(f (k/es)).length:=by rw[p.1];exact Ki _ e
    exact⟨_,by rw[cy b];exact J4 c,p.2 _ (Ku c)⟩
  . obtain⟨d,h,j⟩:=xS (l:=r) h1 (λn es f m=>h2 n es f (by simp[m])) (k-n*es) (by simp only[aa,ar.size]at hk;omega);exact⟨d,by rw[gZ b];exact h,j⟩
theorem mX(s:St)(c q b:Nat)(l:List ar)(j:q+l.length<=b):(s.apply (bs c q l)).az c b=(s.az c b).take q++l++(s.az c b).drop (q+l.length):=by
 apply Xc;intro i
 by_cases d:i<b
 . rw[St.bL _ _ _ _ d,St.jY]
   by_cases h:i<q
   . rw[JA (by omega),Jq,Ka (by simp[St.dX];omega),Q6,JB h,St.bL _ _ _ _ d]
   . rw[JB (by omega)]
     by_cases k:i<q+l.length
     . rw[Jq,Jy (by simp[St.dX];omega),Ka (by simp[St.dX];omega)];have e:i-((s.az c b).take q).length=i-q:=by simp[St.dX];omega
       rw[e,J4 (by omega)];simp
     . rw[Jy (by simp[St.dX];omega),Qg];have e:q+l.length+(i-((s.az c b).take q++l).length)=i:=by simp[St.dX];omega
       rw[e,St.bL _ _ _ _ d,J7 (by omega)];simp
 . rw[J7 (by simp[St.dX];omega),J7 (by simp[St.dX];omega)]
theorem tT{T:TypeId}{n:Nat}(j:cw P T=some n){b off:Nat}{c:Array Value}{e:TypeId}{d h:Nat}(k:w.heap[b]?=some (.cells c e (d,h))){v:Value}(i:v.cells.size=n)
 (m:∀u∈v.cells.toList,u.oneCell'=true) (o:off+n<=c.size) (p:h<=d\/off+n<=d):(storeVar T ⟨b,off,none⟩ v).run P w=.ok () (gO w b (dw c off v.cells.toList) e d h):=by
 simp only[storeVar,Sem.run_bind,aS j,Result.andThen_ok,i];simp only[ne_eq,not_true_eq_false,JF];rw[qI v.cells.toList 0 w c k m (by simp[i];omega) (by simp[i];omega)];rfl
theorem nG{o:Oper}{T:TypeId}{x y:Operand}(d:o.op=.store T x y)(e:o.dst=none){A:Addr}{c:World}(h:a.eval x=.pointer (some A))(b:(storeVar T A (a.eval y)).run P w=.ok () c)
 {ws} (i:dL E (s.apply ws) c a):fW E P o s w a ws:=by
 intro Q;unfold Oper.wp;have:(execOp a.eval o).run P w=.ok .skip c:=by
  unfold execOp;simp[d,h,Instr.storeAt,Instr.sureAddr,b]
 rw[this];show dL E _ c (a.put o.dst undef)
 rw[e];exact i
end
end Go.Sx
namespace Go.Sx
open Go Go.RowKit
variable [bW]
theorem qo:∀{l:List ar}{q off b:Nat},qt (l.map ar.shape) q off=some b->∃d,b=q+d/\d<=l.length/\aa (l.take d)=off
 |l,q,0,b,h=>by simp[qt]at h;exact⟨0,by omega,by omega,by simp[aa]⟩
 |.s v::r,q,off+1,b,h=>by
  simp only[J8,ar.shape,qt]at h;obtain⟨d,e,i,c⟩:=qo h;exact⟨d+1,by omega,by simp;omega,by simp[aa,ar.size,c];omega⟩
 |.a n es f::r,q,off+1,b,h=>by
  simp only[J8,ar.shape,qt]at h;split at h
  case isFalse=>cases h
  rename_i j;obtain⟨d,e,i,c⟩:=qo h;exact⟨d+1,by omega,by simp;omega,by simp[aa,ar.size,c];omega⟩
 |[],_,_+1,_,h=>by simp[qt]at h
theorem zH{P:Program}{w:World}{f:Field}{n:Nat}(d:cw P f.type=some (n+1))(b c:Nat):(fieldPlace ⟨b,c,none⟩ f).run P w=.ok ⟨b,c+f.offset,none⟩ w:=by
 simp[fieldPlace,aS d,dU]
section
variable {E : Env} {P : Program} {ro : RO} {own : Own} {s : St} {w : World} {a : Act}
theorem ji{b c h:List ar}(k:Nat)(A:Nat)(i:aa b=A):flat (b++c++h) k=if k<A then flat b k else if k<A+aa c then flat c (k-A)else flat h (k-(A+aa c)):=by
 subst i;rw[jw,jw,cu]
 by_cases d:k<aa b
 . rw[JB (by omega),JB d,JB d]
 . by_cases e:k<aa b+aa c
   . rw[JB e,JA d,JA d,JB e]
   . rw[JA e,JA d,JA e]
theorem vu{x:SV}{l:List ar}{v:Value}(d:Rel ro own x v)(b:ln x=some l):v.cells.size=aa l/\∀(k:Nat)(e:SV),flat l k=some e->Rel ro own e (v.cells.getD k undef):=by
 unfold ln at b;split at b
 . simp at b;subst b;obtain⟨o,h,i,j⟩:=cU d;rw[h];exact⟨i,j⟩
 . split at b
   . rename_i m;simp at b;subst b;rw[Bz (gk d m)];refine⟨rfl,λk e c=>?_⟩;cases k with
     |zero=>rw[cC]at c;simp at c;subst c;simpa using d
     |succ k=>rw[cB]at c;cases c
   . cases b
theorem jk:∀{l:List ar}{b:List SV},aV l=some b->l=b.map .s
 |[],b,h=>by simp[aV]at h;subst h;rfl
 |.s v::r,b,h=>by
  simp only[aV,Jp]at h;obtain⟨d,c,rfl⟩:=h;rw[jk c];rfl
 |.a _ _ _::r,b,h=>by simp[aV]at h
theorem xT{x:SV}{b:List SV}{v:Value}(e:Rel ro own x v)(c:ny x=some b):v.cells.size=b.length/\∀(k:Nat)(d:SV),b[k]?=some d->Rel ro own d (v.cells.getD k undef):=by
 have key:ln x=some (b.map .s):=by
  cases x
  case agg l=>exact JM some (jk c)
  all_goals first
   |(simp only[ny,ib,JE,J3]at c;subst c;rfl)
   |(simp[ny,ib]at c)
 obtain⟨h,i⟩:=vu e key;exact⟨by rw[h,fY],λk d j=>i k d (by rw[lj];exact j)⟩
theorem rO{v:Value}(h:∀k,k<v.cells.size->(v.cells.getD k undef).oneCell'=true):∀u∈v.cells.toList,u.oneCell'=true:=by
 intro u hu;obtain⟨k,b,rfl⟩:=List.getElem_of_mem hu;have:=h k (by simpa using b);simpa[Jf,show k<v.cells.size by simpa using b]using this
theorem GB(b:Array Value)(k:Nat):b.toList.getD k undef=b.getD k undef:=by
 simp
theorem UG(h:bA E ro own s w a){o:Oper}{T:TypeId}{x y:Operand}(ho:o.op=.store T x y)(hd:o.dst=none){ws}(c:(fR x λx=>fR y λy=>BU P T x y).ok s ws):fW E P o s w a ws:=by
 obtain⟨x',hx,ay⟩:=aZ h c;clear c;obtain⟨y',hy,c⟩:=aZ h ay;clear ay;unfold BU at c;split at c
 case h_2=>exact c.elim
 rename_i n hn;split at c
 . rename_i id q;obtain⟨b,hb,hv⟩:=JI hx;obtain⟨m,hm,c⟩:=fG c;have he:=h.gK id m hm;split at c
   . exact c.elim
   rename_i bb;have bd:m.row=false:=by cases hr:m.row<;>simp[hr]at bb⊢
   have hz:m.zW=false:=by cases hr:m.zW<;>simp[hr]at bb⊢
   obtain⟨J,bt⟩:=he.plain bd;have be:own.env id m.aD=some (some b):=by rw[J];exact hb
   split at c
   case h_2=>exact c.elim
   rename_i l hl;split at c
   case isFalse=>exact c.elim
   rename_i hc;obtain⟨aw,F,X,Z⟩:=hc;obtain⟨bf,c⟩:=td c;have ax:ws=bs id q l:=c.symm;subst ax;obtain⟨A,B⟩:=vu hy hl;obtain⟨cs,e,lo,hi,hh,r1,r2,r3,r4,r5,r6⟩:=(he.live b be hz).body;have cH:=St.dX s id m.ns;have ac:(((s.az id m.ns).drop q).take l.length).map ar.shape=l.map ar.shape:=by
    rw[bt]at X;rw[List.map_take,List.map_drop];exact X
   have ad:aa (((s.az id m.ns).drop q).take l.length)=aa l:=sE ac;have d:own.st id q=aa ((s.az id m.ns).take q)\/l=[]:=by
    rcases Kv q m.ns with h1|h1
    . exact .inl (he.st q h1)
    . refine .inr ?_
      match l,F with
      |[],_=>rfl
      |_::_,F=>simp at F;omega
   have z:s.az id m.ns=(s.az id m.ns).take q++((s.az id m.ns).drop q).take l.length++(s.az id m.ns).drop (q+l.length):=by
    conv=>lhs;rw[<-List.take_append_drop q (s.az id m.ns),<-List.take_append_drop l.length ((s.az id m.ns).drop q)]
    rw[List.drop_drop,Jq]
   have cJ:aa (s.az id m.ns)=aa ((s.az id m.ns).take q)+aa l+aa ((s.az id m.ns).drop (q+l.length)):=by
    conv=>lhs;rw[z]
    rw[cu,cu,ad]
   rcases d with d|rfl
   case inr=>
    have h0:(a.eval y).cells.size=0:=by rw[A];rfl
    have bv:n=0:=by rw[<-aw];rfl
    have C:(storeVar T ⟨b,own.st id q,none⟩ (a.eval y)).run P w=.ok () w:=by
     simp only[storeVar,Sem.run_bind,aS hn,Result.andThen_ok,h0,bv];have:(a.eval y).cells.toList=[]:=by simpa using h0
     simp[this,storeCells]
    exact nG ho hd hv C ⟨ro,own,h⟩
   have C:=tT (w:=w) hn (b:=b) (off:=own.st id q) hh (v:=a.eval y) (by rw[A,aw]) (rO λk c=>by
    obtain⟨sv,e1,e2⟩:=xS Z bf k (by rw[<-A];exact c);exact gk (B k sv e1) e2) (by rw[d];omega) (by rw[d];omega)
   refine nG ho hd hv C ⟨ro,own,h.U3 hm hz be hh (jn _ _ _) (λloc K=>bc _ _ _ _ _ K) ?_ ?_⟩
   . rw[mX _ _ _ _ _ F]
     conv=>rhs;rw[z]
     simp only[Qx,ac]
   . intro k sv c;rw[mX _ _ _ _ _ F,ji k _ rfl]at c;have p:flat (s.az id m.ns) k=if k<aa ((s.az id m.ns).take q)then flat ((s.az id m.ns).take q) k else if k<aa ((s.az id m.ns).take q)+aa l then flat (((s.az id m.ns).drop q).take l.length) (k-aa ((s.az id m.ns).take q))else flat ((s.az id m.ns).drop (q+l.length)) (k-(aa ((s.az id m.ns).take q)+aa l)):=by
      conv=>lhs;rw[z]
      rw[ji k _ rfl,ad]
     have L:(a.eval y).cells.toList.length=aa l:=by simpa using A
     rw[jl _ _ _ _ (by rw[L,d];omega),d,L,GB]
     by_cases k1:k<aa ((s.az id m.ns).take q)
     . rw[JA (by omega)];rw[JB k1]at c p;exact r4 k sv (by rw[p];exact c)
     . rw[JA k1]at c p
       by_cases k2:k<aa ((s.az id m.ns).take q)+aa l
       . rw[JB (by omega)];rw[JB k2]at c;exact B _ sv c
       . rw[JA (by omega)];rw[JA k2]at c p;exact r4 k sv (by rw[p];exact c)
 . rename_i id aD q i j;obtain⟨b,hb,hv⟩:=tI hx;obtain⟨m,hm,c⟩:=fG c;have he:=h.gK id m hm;split at c
   case isFalse=>exact c.elim
   rename_i bz;obtain⟨J,hq,hz⟩:=bz;rw[<-J]at hb;obtain⟨y2,bF,c⟩:=lf c;split at c
   case h_2=>exact c.elim
   rename_i k es f;split at c
   case h_2=>exact c.elim
   rename_i H ca;obtain⟨hi,c⟩:=c;split at c
   case isFalse=>exact c.elim
   rename_i hc;obtain⟨aw,F,X,Z⟩:=hc;have ax:ws=[(.sg id q,.s (.a k es λM=>af (decide (M=i)) (cE (f i) j H) (f M)))]:=c.symm;subst ax;obtain⟨A,B⟩:=xT hy ca;obtain⟨cs,e,lo,cQ,hh,r1,r2,r3,r4,r5,r6⟩:=(he.live b hb hz).body;have D:(s.az id m.ns)[q]?=some (.a k es f):=by rw[St.bL _ _ _ _ hq,bF]
   have cb:own.es id q=es:=by rw[he.es q _ D];rfl
   have d:=he.st q hq;have bh:=US D;simp only[ar.size]at bh;have da:i*es+es<=k*es:=by
    have:(i+1)*es<=k*es:=Jl _ hi;rw[Ji]at this;omega
   rw[cb]at hv;have C:=tT (w:=w) hn (b:=b) (off:=own.st id q+i*es+j) hh (v:=a.eval y) (by rw[A,X]) (rO λk c=>by
    have bi:k<H.length:=by rw[<-A];exact c
    simp only[Js]at Z;exact gk (B k _ (J4 bi)) (Z _ (Ku bi))) (by rw[d];omega) (by rw[d];omega)
   have al:(s.apply [(.sg id q,.s (.a k es λM=>af (decide (M=i)) (cE (f i) j H) (f M)))]).az id m.ns=(s.az id m.ns).set q (.a k es λM=>af (decide (M=i)) (cE (f i) j H) (f M)):=by
    apply Xc;intro t
    by_cases N:t<m.ns
    . rw[St.bL _ _ _ _ N,K6]
      by_cases G:q=t
      . subst G;simp[St.dX,N,St.uC,St.apply,St.put]
      . rw[JA G,St.bL _ _ _ _ N];simp[St.uC,St.apply,St.put,Yv G]
    . rw[J7 (by simp[St.dX];omega),J7 (by simp[St.dX];omega)]
   have db:(cE (f i) j H).length=es:=by simp[cE];omega
   refine nG ho hd hv C ⟨ro,own,h.U3 hm hz hb hh (jn _ _ _) (λloc K=>by simp[St.apply,St.put,K q]) ?_ ?_⟩
   . rw[al];apply Xc;intro t;simp only[J5,K6]
     by_cases G:q=t
     . subst G;rw[JB rfl,D];simp[St.dX,hq,ar.shape]
     . rw[JA G]
   . intro t sv N;rw[al,Po (y:=.a k es λM=>af (decide (M=i)) (cE (f i) j H) (f M)) D rfl]at N;have L:(a.eval y).cells.toList.length=H.length:=by simpa using A
     rw[jl _ _ _ _ (by rw[L,d];omega),L,GB,d]
     by_cases h1:aa ((s.az id m.ns).take q)<=t/\t<aa ((s.az id m.ns).take q)+(ar.a k es f).size
     . rw[JB h1]at N;obtain⟨dc,cc⟩:=h1;simp only[ar.size]at cc;obtain⟨u,rfl⟩:∃u,t=aa ((s.az id m.ns).take q)+u:=⟨t-aa ((s.az id m.ns).take q),by omega⟩;rw[show aa ((s.az id m.ns).take q)+u-aa ((s.az id m.ns).take q)=u from by omega]at N;have hu:u<k*es:=by omega
       have aq:0<es:=by
        rcases Jw es with h0|h0
        . subst h0;simp at hu
        . exact h0
       have ch:u/es*es+u%es=u:=by rw[Km];exact Q5 u es
       have cL:u%es<es:=Ki _ aq;simp only[ar.at,hu,JE]at N;obtain⟨x1,y1,r,bp,rfl⟩:=m8 N;have O:flat (s.az id m.ns) (aa ((s.az id m.ns).take q)+u)=(f (u/es))[u%es]?:=by
        rw[tO D u (by simp only[ar.size];exact hu)];simp only[ar.at,hu,JE]
       by_cases R:u/es=i
       ·
        rw[R]at ch bp O
        by_cases hj:j<=u%es/\u%es<j+H.length
        . rw[JB (by omega)];refine jv (λ_=>?_) (λhf=>by simp[R]at hf);have:H[u%es-j]?=some x1:=by
           simp only[cE]at r;rw[Jq,Jy (by simp;omega),Ka (by simp;omega)]at r;have e1:u%es-((f i).take j).length=u%es-j:=by simp;omega
           rw[e1]at r;exact r
          have:=B _ _ this;rw[show aa ((s.az id m.ns).take q)+u-(aa ((s.az id m.ns).take q)+i*es+j)=u%es-j from by omega];exact this
        . rw[JA (by omega)];refine jv (λ_=>?_) (λhf=>by simp[R]at hf);have:(f i)[u%es]?=some x1:=by
           simp only[cE]at r
           by_cases cj:u%es<j
           . rw[Jq,Ka (by simp;omega),Q6,JB cj]at r;exact r
           . rw[Jy (by simp;omega),Qg]at r;have e1:j+H.length+(u%es-((f i).take j++H).length)=u%es:=by simp;omega
             rw[e1]at r;exact r
          exact r4 _ _ (by rw[O];exact this)
       ·
        have df: ¬(i*es<=u/\u<i*es+es):=by
         rintro⟨g1,g2⟩;apply R;rw[Nat.div_eq_iff aq];omega
        have cp: ¬(aa ((s.az id m.ns).take q)+i*es+j<=aa ((s.az id m.ns).take q)+u/\aa ((s.az id m.ns).take q)+u<aa ((s.az id m.ns).take q)+i*es+j+H.length):=by omega
        rw[JA cp];refine jv (λhf=>by simp[R]at hf) (λ_=>?_);exact r4 _ _ (by rw[O];exact bp)
     . rw[JA h1]at N;simp only[ar.size]at h1;rw[JA (by omega)];exact r4 t sv N
 . exact c.elim
end
end Go.Sx
namespace Go.Sx
open Go Go.RowKit
variable [bW]
theorem F4{P:Program}{w:World}{S:TypeId}{e n:Nat}{f:Field}(d:nY P S e=some f)(h:cw P f.type=some (n+1))(b c:Nat):
 (Instr.fieldAt S (.pointer (some ⟨b,c,none⟩)) e).run P w=.ok (.pointer (some ⟨b,c+f.offset,none⟩)) w:=by
 unfold nY at d;split at d
 case h_2=>cases d
 rename_i i hu;simp[Instr.fieldAt,run_underlying hu,d,Instr.sureAddr,zH h]
theorem run_indexAt_array{P:Program}{w:World}{T e:TypeId}{c h:Nat}{k:IntKind}{i:Int}(j:P.underlying T=some (.array c e))(m:cw P e=some h)(o:0<=i/\i<(c:Int))(b d:Nat):
 (Instr.indexAt T (.pointer (some ⟨b,d,none⟩)) (.int k i)).run P w=.ok (.pointer (some ⟨b,d+i.toNat*h,none⟩)) w:=by
 simp[Instr.indexAt,asIntOf,run_underlying j,Instr.sureAddr,o,aS m,dU]
theorem run_indexAt_slice{P:Program}{w:World}{T e:TypeId}{c h j:Nat}{k:IntKind}{i:Int}(m:P.underlying T=some (.slice e))(o:cw P e=some j)(p:0<=i/\i<(c:Int))(b d:Nat):
 (Instr.indexAt T (.slice (some ⟨b,d,none⟩) c h) (.int k i)).run P w=.ok (.pointer (some ⟨b,d+i.toNat*j,none⟩)) w:=by
 simp[Instr.indexAt,asIntOf,run_underlying m,p,aS o,dU]
theorem oG{P:Program}{w:World}{T:TypeId}{n:Nat}(d:bZ P T=some true)(e:cw P T=some n)(c:Array Value)(b:Nat):(part T c b).run P w=.ok (.agg (c.extract b (b+n))) w:=by
 simp[part,nT d,aS e]
theorem oj{P:Program}{w:World}{T:TypeId}(d:bZ P T=some false)(c:Array Value)(b:Nat)(h:b<c.size):(part T c b).run P w=.ok (c.getD b undef) w:=by
 simp[part,nT d,h]
section
variable {E : Env} {P : Program} {ro : RO} {own : Own} {s : St} {w : World} {a : Act}
theorem Ah(h:bA E ro own s w a){o:Oper}{S:TypeId}{F:Nat}{x:Operand}(J:o.op=.fieldAddr S x F){ws}(e:(fR x (rp P E.N o.dst S F)).ok s ws):fW E P o s w a ws:=by
 obtain⟨x',u,c⟩:=aZ h e;clear e;unfold rp at c;split at c
 case h_2=>exact c.elim
 rename_i f K;split at c
 case h_2=>exact c.elim
 rename_i n L;have go:∀{b off:Nat}{y:SV},a.eval x=.pointer (some ⟨b,off,none⟩)->Rel ro own y (.pointer (some ⟨b,off+f.offset,none⟩))->(bm E.N o.dst y).ok s ws->fW E P o s w a ws:=by
  intro b off y k M e;refine aP h (v:=.pointer (some ⟨b,off+f.offset,none⟩)) ?_ M e;unfold execOp;simp[J,k,F4 K L]
 split at c
 . rename_i id q;obtain⟨b,z,k⟩:=JI u;obtain⟨m,A,e⟩:=fG c;have B:=h.gK id m A;split at e
   . exact e.elim
   rename_i p;obtain⟨G,C⟩:=B.plain (by simpa using p);split at e
   case h_2=>exact e.elim
   rename_i H r;split at e
   case isFalse=>exact e.elim
   rename_i D;rw[C,<-List.map_drop]at r;obtain⟨d,O,e2,R⟩:=qo r;have X:own.st id H=own.st id q+f.offset:=by
    rw[B.st H D,B.st q (by omega),O,List.take_add,cu,R]
   refine go k ?_ e;rw[<-X];exact .ptr _ _ _ _ z
 . rename_i id aD q i j;obtain⟨b,z,k⟩:=tI u;refine go k ?_ c;rw[Kt];exact .su _ _ _ _ _ _ _ z
 . rename_i es len g i j;obtain⟨b,k0,Z,k,hi,hl,A,hh⟩:=wT u;refine go k ?_ c;rw[Kt];exact .rA _ _ _ _ _ _ _ _ Z hl A hh hi
 . exact c.elim
theorem Ae(h:bA E ro own s w a){o:Oper}{T:TypeId}{x y:Operand}(ho:o.op=.indexAddr T x y){ws}(c:(fR x λx=>fR y λy=>qq P E.N o.dst T x y).ok s ws):fW E P o s w a ws:=by
 obtain⟨x',K,r⟩:=aZ h c;clear c;obtain⟨y',hy,c⟩:=aZ h r;clear r;unfold qq at c;split at c
 case h_2=>exact c.elim
 rename_i kd i;have L:=aK hy;have go:∀{b off:Nat}{z:SV},(Instr.indexAt T (a.eval x) (.int kd i)).run P w=.ok (.pointer (some ⟨b,off,none⟩)) w->Rel ro own z (.pointer (some ⟨b,off,none⟩))->(bm E.N o.dst z).ok s ws->fW E P o s w a ws:=by
  intro b off z u hr c;refine aP h (v:=.pointer (some ⟨b,off,none⟩)) ?_ hr c;unfold execOp;simp[ho,L,u]
 split at c
 . rename_i len e H;split at c
   case h_2=>exact c.elim
   rename_i id q es d;obtain⟨b,M,A⟩:=JI K;obtain⟨m,B,c⟩:=fG c;have k:=h.gK id m B;split at c
   . exact c.elim
   rename_i j;obtain⟨ac,O⟩:=k.plain (by simpa using j);split at c
   case isFalse=>exact c.elim
   rename_i R;obtain⟨C,c⟩:=c;rw[O,J5]at R;have J:own.es id q=es:=by
    simp only[Jp]at R;obtain⟨g,hg,D⟩:=R;rw[k.es q g hg];cases g<;>simp[ar.shape]at D
    simp[ar.es,D.2]
   rw[A]at go;refine go (run_indexAt_array H d C _ _) ?_ c;have:=Rel.su (ro:=ro) own id 0 q i.toNat 0 b M
   rwa[J,Jv]at this
 . rename_i e H;split at c
   . rename_i id aD off len es d;obtain⟨m,B,c⟩:=fG c;have k:=h.gK id m B;split at c
     case isFalse=>exact c.elim
     rename_i hc;obtain⟨j,F⟩:=hc;obtain⟨C,c⟩:=c;rcases fH K with⟨b,M,G,A⟩|⟨_,X,_,_⟩
     . obtain⟨n,f,p,_⟩:=k.row j;have J:own.es id 0=es:=by rw[k.es 0 (.a n m.es f) (by rw[p];rfl)];exact F
       have e0:own.st id 0=0:=by
        have h1:0<m.ns:=by
         have:=St.dX s id m.ns;rw[p]at this;simp at this;omega
        rw[k.st 0 h1];rfl
       rw[A]at go;refine go (run_indexAt_slice H d C _ _) ?_ c;have:=Rel.su (ro:=ro) own id aD 0 (off+i.toNat) 0 b M;rw[e0,J,Jv,Jg,Ji]at this
       rwa[J]
     . omega
   . rename_i Z len f es d;split at c
     case isFalse=>exact c.elim
     rename_i k;subst k;obtain⟨C,c⟩:=c;rcases dE K with⟨X,_⟩|⟨b,k0,cap,vs,A,G,X,B,hh⟩
     . omega
     . rw[A]at go;refine go (run_indexAt_slice H d C _ _) ?_ c;have:=Rel.rA (ro:=ro) own Z len f i.toNat 0 b k0 vs X B hh (by omega)
       rwa[Jv]at this
   . exact c.elim
 . exact c.elim
theorem C2{es n j:Nat}{agg:Bool}{T:TypeId}(m:bZ P T=some agg)(p:cw P T=some n){cs:Array Value}{off:Nat}{l:List SV}{x:SV}(b:oo agg n l j=some x)
 (q:off+l.length<=cs.size) (o:∀(k:Nat)(d:SV),l[k]?=some d->Rel ro own d (cs.getD (off+k) undef)):∃v,(part T cs (off+j)).run P w=.ok v w/\Rel ro own x v:=by
 unfold oo at b;cases agg with
 |true=>
  simp only[JE]at b;split at b
  case isFalse=>cases b
  rename_i r;simp only[J3]at b;subst b;refine⟨_,oG m p cs _,.agg _ _ _ ?_ λk d c=>?_⟩
  . rw[fY];simp;omega
  . rw[lj]at c;have h:k<n:=by
     have:=(Jb.1 c).1;simp at this;omega
    rw[Q6,JB h,Qg]at c;have i:=(Jb.1 c).1;have:=o (j+k) d c;have e:(cs.extract (off+j) (off+j+n)).getD k undef=cs.getD (off+(j+k)) undef:=by
     rw[Jf,Ye,JB (by omega),Jf]
     congr 2;omega
    rw[e];exact this
 |false=>
  simp only[Jr,JF]at b;split at b
  case isFalse=>cases b
  have i:=(Jb.1 b).1;exact⟨_,oj m cs _ (by omega),o j x b⟩
theorem snd_index(h:bA E ro own s w a){o:Oper}{T:TypeId}{x y:Operand}(J:o.op=.index T x y){ws}(b:(fR x λx=>fR y λy=>Dv P E.N o.dst T x y).ok s ws):fW E P o s w a ws:=by
 obtain⟨x',K,j⟩:=aZ h b;clear b;obtain⟨y',L,b⟩:=aZ h j;clear j;unfold Dv at b;split at b
 case h_2=>exact b.elim
 rename_i kd i;have m:=aK L;split at b
 . rename_i len e C;split at b
   case h_2=>exact b.elim
   rename_i n es f M agg p q;split at b
   case isFalse=>exact b.elim
   rename_i O;obtain⟨rfl,rfl⟩:=O;obtain⟨D,b⟩:=b;split at b
   case isFalse=>exact b.elim
   rename_i r;split at b
   case h_2=>exact b.elim
   rename_i z R;obtain⟨F,G,X,Z⟩:=cU K;have ac:i.toNat*es+es<=n*es:=by
    have:(i.toNat+1)*es<=n*es:=Jl _ (by omega);rw[Ji]at this;omega
   have ad:F.size=n*es:=by rw[X];simp[aa,ar.size]
   obtain⟨v,c,hr⟩:=C2 (ro:=ro) (own:=own) (w:=w) (es:=es) q p (cs:=F) (off:=i.toNat*es) R (by omega) (λk sv u=>by
    have H:k<es:=by rw[<-r];exact(Jb.1 u).1
    refine Z _ sv ?_;rw[cy (by omega)];have:=lM (f:=f) (n:=n) (i:=i.toNat) (by omega) H;simp only[ar.at,show i.toNat*es+k<n*es by omega,JE]at this;rw[this];exact u)
   refine aP h (v:=v) ?_ hr b;unfold execOp;simp[J,m,G,Instr.index,asIntOf,run_underlying C,D,aS p];rw[Jv]at c;simp[c]
 . rename_i C;split at b
   case h_2=>exact b.elim
   rename_i d;obtain⟨D,b⟩:=b;have G:=dR K;refine aP h (v:=.int .u8 ((d.getD i.toNat 0).toNat:Int)) ?_ (.int _ _ _) b;unfold execOp;have A:i.toNat<d.length:=by omega
   have B:(⟨d.toArray⟩:ByteArray)[i.toNat]?=some (d.getD i.toNat 0):=by
    have:(⟨d.toArray⟩:ByteArray).size=d.length:=rfl;rw[getElem?_pos _ _ (by rw[this];exact A)];simp[A];rfl
   simp only[J,m,G,Instr.index,asIntOf,Sem.run_bind,Sem.run_pure,Result.andThen_ok,run_underlying C,D.1,JE,B]
 . exact b.elim
theorem Y8(h:bA E ro own s w a){o:Oper}{S:TypeId}{A:Nat}{x:Operand}(D:o.op=.field S x A){ws}(d:(fR x (Dd P E.N o.dst S A)).ok s ws):fW E P o s w a ws:=by
 obtain⟨L,F,b⟩:=aZ h d;clear d;unfold Dd at b;split at b
 case h_2=>exact b.elim
 rename_i f l p;obtain⟨i,G,H,B⟩:=cU F;have go:∀{v:Value}{y:SV},(part f.type i f.offset).run P w=.ok v w->Rel ro own y v->(bm E.N o.dst y).ok s ws->fW E P o s w a ws:=by
  intro v y j m d;refine aP h (v:=v) ?_ m d;unfold nY at p;split at p
  case h_2=>cases p
  rename_i M hu;unfold execOp;simp[D,G,Instr.field,run_underlying hu,p,asAgg,j]
 split at b
 . rename_i n r c C m;split at b
   case h_2=>exact b.elim
   rename_i J q;obtain⟨d1,d2⟩:=jo m;obtain⟨t1,t2,t3⟩:=gW q;refine go (oG c C i _) (.agg _ J _ ?_ λk K d=>?_) b
   . simp;omega
   . have u:k<n:=by rw[<-t1];exact cK d
     rw[t3 k u,d2]at d;have e:(i.extract f.offset (f.offset+n)).getD k undef=i.getD (f.offset+k) undef:=by
      rw[Jf,Ye,JB (by omega),Jf]
     rw[e];exact B _ K d
 . rename_i n v r c C m;obtain⟨d1,d2⟩:=jo m;have z:=d2 0;rw[cC,Jv]at z;exact go (oj c i _ (by rw[H];exact cK z.symm)) (B _ v z.symm) b
 . exact b.elim
theorem I5(h:bA E ro own s w a){o:Oper}{e:UnOp}{T:TypeId}{x:Operand}(c:o.op=.unOp e T x){i:SV}(d:Rel ro own i (a.eval x)){ws}(b:(PO E.N o.dst e i).ok s ws):fW E P o s w a ws:=by
 unfold PO at b;split at b
 . exact aP h (by unfold execOp;simp[c,jJ d,Op.unary]) (.bool _ _) b
 . exact aP h (by unfold execOp;simp[c,nX d,Op.unary]) (.ff _) b
 . exact aP h (by unfold execOp;simp[c,qD d,Op.unary]) (.tt _) b
 . exact aP h (by unfold execOp;simp[c,aK d,Op.unary,Op.intArith]) (.int _ _ _) b
 . exact aP h (by unfold execOp;simp only[c,aK d,Op.unary,intBits_xor];rfl) (.int _ _ _) b
 . exact b.elim
theorem Wo(h:bA E ro own s w a){o:Oper}{c:UnOp}{T:TypeId}{x:Operand}(d:o.op=.unOp c T x){ws}(e:(fR x (PO E.N o.dst c)).ok s ws):fW E P o s w a ws:=by
 obtain⟨j,i,b⟩:=aZ h e;exact I5 h d i b
end
end Go.Sx
