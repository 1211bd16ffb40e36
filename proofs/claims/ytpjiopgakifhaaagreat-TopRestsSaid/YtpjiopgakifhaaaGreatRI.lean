import Derived.Test.YtpjiopgakifhaaaGreatRA
import Derived.Test.YtpjiopgakifhaaaGreatRH
set_option linter.unusedSectionVars false
set_option linter.unusedSimpArgs false
set_option linter.unusedVariables false
set_option maxRecDepth 100000
namespace Go.Proofs.Top
open Go Go.Sx Go.Proofs Go.RowKit Go.Shelf Go.Proofs.Fi Tryz
variable [bW]
attribute [local go_sem] Oper.semAt_some
def iY(x y:Int):Bool:=decide (-1073741824<=x)&&decide (x<=1073741824)&&decide (-1073741824<=y)&&decide (y<=1073741824)
set_option maxRecDepth 100000 in
set_option maxHeartbeats 2000000 in
theorem qa(F:Fence)(n:Nat)(h:F.fn 81)(hro:F.round=none)(x y:Int)(W:World):
 CallsIn F n prog 81 #[.agg #[vI x,vI y]] W λe W'=>e=.returned (.bool (iY x y))/\W'=W.alloc (.cells #[vI x,vI y] 25):=by
 refine callsIn_of_wp func81 rfl h ?_ hro;simp only[ntmps81,List.size_toArray,List.length_cons,List.length_nil,Nat.reduceAdd,Nat.reduceSub,Array.replicate_succ,Array.replicate_zero,List.push_toArray,List.append_toArray,List.nil_append,List.cons_append]
 gi_wp2
 all_goals
  go_ret
  refine⟨?_,rfl⟩;simp[iY]
  try omega
def kx(x y:Int):Int:=if iY x y=true then x else 0
def ky(x y:Int):Int:=if iY x y=true then y else 0
abbrev bx(x y:Int):Obj:=.cells #[vI x,vI y] 25
set_option maxRecDepth 100000 in
set_option maxHeartbeats 2000000 in
theorem ID(F:Fence)(n:Nat)(h81:F.fn 81)(h:F.fn 82)(hn:4<=n)(hro:F.round=none)(x y:Int)(W:World):
 CallsIn F n prog 82 #[.agg #[vI x,vI y]] W λe W'=>e=.returned (.agg #[vI (kx x y),vI (ky x y)])/\W'=((W.alloc (bx x y)).alloc (bx (kx x y) (ky x y))).alloc (bx x y):=by
 have h1:1<=n:=by omega
 refine callsIn_of_wp func82 rfl h ?_ hro;simp only[ntmps82,List.size_toArray,List.length_cons,List.length_nil,Nat.reduceAdd,Nat.reduceSub,Array.replicate_succ,Array.replicate_zero,List.push_toArray,List.append_toArray,List.nil_append,List.cons_append]
 gi_wp2_with (gi_at_call 81;refine(qa F (n-1) h81 hro _ _ _).mono ?_;rintro e w' ⟨rfl,rfl⟩)
 all_goals
  rename_i hs;simp only[Bool.not_eq_true',Bool.not_eq_false']at hs;refine⟨rfl,.agg #[vI (kx x y),vI (ky x y)],?_,rfl,?_⟩<;>simp[results,f82,go_sem,kx,ky,hs]
theorem b3(W:World)(a b c:Obj):Below W.heap.size W (((W.alloc a).alloc b).alloc c):=(((Below.refl _ W).alloc (J1 _) _).alloc (by simp) _).alloc (by simp;omega) _
theorem b4(W:World)(a b c d:Obj):Below W.heap.size W ((((W.alloc a).alloc b).alloc c).alloc d):=(b3 W a b c).alloc (by simp;omega) _
def VJ(x y u v:Int):Int:=if(iY x y&&iY u v)=true then wrap64 (wrap64 (x*u)+wrap64 (y*v))else 0
set_option maxRecDepth 100000 in
set_option maxHeartbeats 2000000 in
theorem Un(F:Fence)(n:Nat)(h81:F.fn 81)(h:F.fn 38)(hn:4<=n)(hro:F.round=none)(x y u v:Int)(W:World):
 CallsIn F n prog 38 #[.agg #[vI x,vI y],.agg #[vI u,vI v]] W λe W'=>e=.returned (vI (VJ x y u v))/\Below W.heap.size W W':=by
 have h1:1<=n:=by omega
 refine callsIn_of_wp func38 rfl h ?_ hro;simp only[ntmps38,List.size_toArray,List.length_cons,List.length_nil,Nat.reduceAdd,Nat.reduceSub,Array.replicate_succ,Array.replicate_zero,List.push_toArray,List.append_toArray,List.nil_append,List.cons_append]
 gi_wp2_with (gi_at_call 81;refine(qa F (n-1) h81 hro _ _ _).mono ?_;rintro e w' ⟨rfl,rfl⟩)
 all_goals
  go_ret
  refine⟨?_,by first|exact b4 _ _ _ _ _|exact b3 _ _ _ _⟩
  simp_all[VJ]
def Ho(x y u v:Int):Int:=if(iY x y&&iY u v)=true then wrap64 (wrap64 (x*v)-wrap64 (y*u))else 0
set_option maxRecDepth 100000 in
set_option maxHeartbeats 2000000 in
theorem Ot(F:Fence)(n:Nat)(h81:F.fn 81)(h:F.fn 175)(hn:4<=n)(hro:F.round=none)(x y u v:Int)(W:World):
 CallsIn F n prog 175 #[.agg #[vI x,vI y],.agg #[vI u,vI v]] W λe W'=>e=.returned (vI (Ho x y u v))/\Below W.heap.size W W':=by
 have h1:1<=n:=by omega
 refine callsIn_of_wp func175 rfl h ?_ hro;simp only[ntmps175,List.size_toArray,List.length_cons,List.length_nil,Nat.reduceAdd,Nat.reduceSub,Array.replicate_succ,Array.replicate_zero,List.push_toArray,List.append_toArray,List.nil_append,List.cons_append]
 gi_wp2_with (gi_at_call 81;refine(qa F (n-1) h81 hro _ _ _).mono ?_;rintro e w' ⟨rfl,rfl⟩)
 all_goals
  go_ret
  refine⟨?_,by first|exact b4 _ _ _ _ _|exact b3 _ _ _ _⟩
  simp_all[Ho]
def RV(x y u v:Int):Int:=if(iY x y&&iY u v)=true then kx (wrap64 (x-u)) (wrap64 (y-v))else 0
def H6(x y u v:Int):Int:=if(iY x y&&iY u v)=true then ky (wrap64 (x-u)) (wrap64 (y-v))else 0
theorem bk(W:World){b:World}(h:Below W.heap.size W b)(a:Obj):Below W.heap.size W (b.alloc a):=h.alloc h.size _
set_option maxRecDepth 100000 in
set_option maxHeartbeats 2000000 in
theorem WG(F:Fence)(n:Nat)(h81:F.fn 81)(h82:F.fn 82)(h:F.fn 39)(hn:5<=n)(hro:F.round=none)(x y u v:Int)(W:World):
 CallsIn F n prog 39 #[.agg #[vI x,vI y],.agg #[vI u,vI v]] W λe W'=>e=.returned (.agg #[vI (RV x y u v),vI (H6 x y u v)])/\Below W.heap.size W W':=by
 have h1:1<=n:=by omega
 refine callsIn_of_wp func39 rfl h ?_ hro;simp only[ntmps39,List.size_toArray,List.length_cons,List.length_nil,Nat.reduceAdd,Nat.reduceSub,Array.replicate_succ,Array.replicate_zero,List.push_toArray,List.append_toArray,List.nil_append,List.cons_append]
 gi_wp2_with first
  |(gi_at_call 81;refine(qa F (n-1) h81 hro _ _ _).mono ?_;rintro e w' ⟨rfl,rfl⟩)
  |(gi_at_call 82;refine(ID F (n-1) h81 h82 (by omega) hro _ _ _).mono ?_;rintro e w' ⟨rfl,rfl⟩)
 all_goals
  refine⟨rfl,.agg #[vI (RV x y u v),vI (H6 x y u v)],?_,rfl,by repeat' first|exact Below.refl _ _|refine bk _ ?_ _⟩
  simp_all[results,f39,go_sem,RV,H6]
def wa(x y:Int):Int:=
 let w:=IntKind.u64.wrap
 let m:=λz=>bits BinOp.and IntKind.u64 z 4294967295
 let t:=w (w (x/4294967296*m y)+w (m x*m y)/4294967296)
 w (w (w (x/4294967296*(y/4294967296))+t/4294967296)+w (m t+w (m x*(y/4294967296)))/4294967296)
set_option maxRecDepth 100000 in
set_option maxHeartbeats 2000000 in
theorem Oz(F:Fence)(n:Nat)(h:F.fn 240)(hro:F.round=none)(x y:Int)(W:World):
 CallsIn F n prog 240 #[.int .u64 x,.int .u64 y] W λe W'=>e=.returned (.tuple #[.int .u64 (wa x y),.int .u64 (IntKind.u64.wrap (x*y))])/\W'=W:=by
 refine callsIn_of_wp func240 rfl h ?_ hro;simp only[ntmps240,List.size_toArray,List.length_cons,List.length_nil,Nat.reduceAdd,Nat.reduceSub,Array.replicate_succ,Array.replicate_zero,List.push_toArray,List.append_toArray,List.nil_append,List.cons_append]
 gi_wp2
 exact bodyPost_ret (results_tmp2 rfl _ _ _) rfl ⟨rfl,rfl⟩
end Go.Proofs.Top
namespace Go.Proofs.Top
open Go Go.Sx Go.Proofs Go.RowKit Go.Shelf Go.Proofs.Fi Tryz
variable [bW]
theorem rh {f n:Nat} {fn:Func} (hf:prog.funcs[f]?=some fn) (hb:fn.body.isSome=true) (hname:(fn.name== "runtime.NumGoroutine")=false) (d:List SV->Option SV)
 (H:∀args r,d args=some r->∀(R:RO)(vals:List Value),aQ R Own.empty args vals->∃v,(∀R':RO,Rel R' Own.empty r v)/\∀W,CallsIn Fence.wide n prog f vals.toArray W λe W'=>e=.returned v/\Below W.heap.size W W'):
 cS prog f λargs=>(d args).map λr=>(True,r):=by
 refine⟨⟨fn,hf,hb,hname⟩,λargs p r hc hp R w vals hR hrel=>?_⟩;cases hd:d args with
 |none=>rw[hd]at hc;cases hc
 |some r'=>
  rw[hd]at hc;simp only[K4,J3,Q4]at hc;obtain⟨rfl,rfl⟩:=hc;obtain⟨v,hv,hcall⟩:=H args _ hd R vals.toList hrel;refine callsIn_wide.1 ((hcall w).mono ?_);rintro e W' ⟨rfl,hB⟩;exact⟨v,R,rfl,hv R,.refl _,λb o v hv=>(hR b o v hv).of_heap (hB.block b (EC (hR _ _ _ hv).1)),λ_ _ _=>rfl,hB⟩
theorem Md{R:RO}{x y:Int}{b:List Value}(h:aQ R Own.empty [.agg [.s (.int .i64 x),.s (.int .i64 y)]] b):b=[.agg #[vI x,vI y]]:=by
 match b,h with
 |[a],⟨h0,_⟩=>rw[Dm h0]
theorem Dg{R:RO}{x y u v:Int}{c:List Value}(h:aQ R Own.empty [.agg [.s (.int .i64 x),.s (.int .i64 y)],.agg [.s (.int .i64 u),.s (.int .i64 v)]] c):c=[.agg #[vI x,vI y],.agg #[vI u,vI v]]:=by
 match c,h with
 |[a,b],⟨h0,h1,_⟩=>rw[Dm h0,Dm h1]
def bS(b:Bool):SV:=match b with
 |true=>.tt
 |false=>.ff
theorem W6(R:RO)(b:Bool):Rel R Own.empty (bS b) (.bool b):=by
 cases b
 . exact .ff _
 . exact .tt _
def CD:List SV->Option SV
 |[.agg [.s (.int .i64 x),.s (.int .i64 y)]]=>some (bS (iY x y))
 |_=>none
theorem Nk:cS prog 81 λargs=>(CD args).map λr=>(True,r):=by
 refine rh (n:=9) func81 (by kernel_rfl) (by kernel_rfl) CD λargs r b R c h=>?_
 unfold CD at b;split at b
 case h_2=>cases b
 simp only[J3]at b;subst b;rw[Md h];refine⟨_,λd=>W6 d _,λW=>(qa Fence.wide 9 trivial rfl _ _ W).mono ?_⟩;rintro e i ⟨rfl,rfl⟩;exact⟨rfl,(Below.refl _ W).alloc (J1 _) _⟩
def Iy:List SV->Option SV
 |[.agg [.s (.int .i64 x),.s (.int .i64 y)]]=>some (.agg [.s (.int .i64 (kx x y)),.s (.int .i64 (ky x y))])
 |_=>none
theorem RJ:cS prog 82 λargs=>(Iy args).map λr=>(True,r):=by
 refine rh (n:=9) func82 (by kernel_rfl) (by kernel_rfl) Iy λargs r b R c h=>?_
 unfold Iy at b;split at b
 case h_2=>cases b
 simp only[J3]at b;subst b;rw[Md h];refine⟨_,λd=>CT d _ _,λW=>(ID Fence.wide 9 trivial trivial (by decide) rfl _ _ W).mono ?_⟩;rintro e i ⟨rfl,rfl⟩;exact⟨rfl,b3 _ _ _ _⟩
def R4:List SV->Option SV
 |[.agg [.s (.int .i64 x),.s (.int .i64 y)],.agg [.s (.int .i64 u),.s (.int .i64 v)]]=>some (.int .i64 (VJ x y u v))
 |_=>none
theorem V4:cS prog 38 λargs=>(R4 args).map λr=>(True,r):=by
 refine rh (n:=9) func38 (by kernel_rfl) (by kernel_rfl) R4 λargs r b R c h=>?_
 unfold R4 at b;split at b
 case h_2=>cases b
 simp only[J3]at b;subst b;rw[Dg h];exact⟨_,λd=>.int _ _ _,λW=>Un Fence.wide 9 trivial trivial (by decide) rfl _ _ _ _ W⟩
def Dp:List SV->Option SV
 |[.agg [.s (.int .i64 x),.s (.int .i64 y)],.agg [.s (.int .i64 u),.s (.int .i64 v)]]=>some (.int .i64 (Ho x y u v))
 |_=>none
theorem NG:cS prog 175 λargs=>(Dp args).map λr=>(True,r):=by
 refine rh (n:=9) func175 (by kernel_rfl) (by kernel_rfl) Dp λargs r b R c h=>?_
 unfold Dp at b;split at b
 case h_2=>cases b
 simp only[J3]at b;subst b;rw[Dg h];exact⟨_,λd=>.int _ _ _,λW=>Ot Fence.wide 9 trivial trivial (by decide) rfl _ _ _ _ W⟩
def R6:List SV->Option SV
 |[.agg [.s (.int .i64 x),.s (.int .i64 y)],.agg [.s (.int .i64 u),.s (.int .i64 v)]]=>some (.agg [.s (.int .i64 (RV x y u v)),.s (.int .i64 (H6 x y u v))])
 |_=>none
theorem WN:cS prog 39 λargs=>(R6 args).map λr=>(True,r):=by
 refine rh (n:=9) func39 (by kernel_rfl) (by kernel_rfl) R6 λargs r b R c h=>?_
 unfold R6 at b;split at b
 case h_2=>cases b
 simp only[J3]at b;subst b;rw[Dg h];exact⟨_,λd=>CT d _ _,λW=>WG Fence.wide 9 trivial trivial trivial (by decide) rfl _ _ _ _ W⟩
def Ct:List SV->Option SV
 |[.int .u64 x,.int .u64 y]=>some (.df [.int .u64 (wa x y),.int .u64 (IntKind.u64.wrap (x*y))])
 |_=>none
theorem Oe:cS prog 240 λargs=>(Ct args).map λr=>(True,r):=by
 refine rh (n:=9) func240 (by kernel_rfl) (by kernel_rfl) Ct λargs r j R d h=>?_
 unfold Ct at j;split at j
 case h_2=>cases j
 rename_i x y;simp only[J3]at j;subst j;have k:d=[.int .u64 x,.int .u64 y]:=by
  match d,h with
  |[a,b],⟨h0,h1,_⟩=>rw[aK h0,aK h1]
 rw[k];refine⟨.tuple #[.int .u64 (wa x y),.int .u64 (IntKind.u64.wrap (x*y))],λm=>?_,λW=>(Oz Fence.wide 9 trivial rfl x y W).mono ?_⟩
 . refine .df _ _ _ rfl λi o c=>?_
   match i,c with
   |0,c=>simp at c;subst c;exact .int _ _ _
   |1,c=>simp at c;subst c;exact .int _ _ _
   |i+2,c=>simp at c
 . rintro e p ⟨rfl,rfl⟩;exact⟨rfl,Below.refl _ _⟩
end Go.Proofs.Top
