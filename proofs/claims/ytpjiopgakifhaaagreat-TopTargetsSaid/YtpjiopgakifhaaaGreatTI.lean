import Derived.Test.YtpjiopgakifhaaaGreatTH
set_option linter.unusedSectionVars false
set_option linter.unusedSimpArgs false
set_option linter.unusedVariables false
set_option maxRecDepth 100000
namespace Go.Proofs.Top
open Go Go.Sx Go.Proofs Go.RowKit Go.Shelf Go.Proofs.Fi
variable [bW]
attribute [local go_sem] Oper.semAt_some
def iY (x y:Int):Bool:=decide (-1073741824<=x)&&decide (x<=1073741824)&&decide (-1073741824<=y)&&decide (y<=1073741824)
set_option maxRecDepth 100000 in
set_option maxHeartbeats 2000000 in
theorem qa (F:Fence) (n:Nat) (h:F.fn 81) (hro:F.round=none) (x y:Int) (W:World):
 CallsIn F n Tryz.prog 81 #[.agg #[vI x,vI y]] W fun e W'=>e= .returned (.bool (iY x y))/\W'=W.alloc (.cells #[vI x,vI y] 25):=by
 refine callsIn_of_wp Tryz.func81 rfl h ?_ hro;simp only [Tryz.ntmps81,List.size_toArray,List.length_cons,List.length_nil,Nat.reduceAdd,Nat.reduceSub,Array.replicate_succ,Array.replicate_zero,List.push_toArray,List.append_toArray,List.nil_append,List.cons_append]
 gi_wp2
 all_goals
  go_ret
  refine⟨?_,rfl⟩;simp [iY]
  try omega
def kx (x y:Int):Int:=if iY x y=true then x else 0
def ky (x y:Int):Int:=if iY x y=true then y else 0
abbrev bx (x y:Int):Obj:= .cells #[vI x,vI y] 25
set_option maxRecDepth 100000 in
set_option maxHeartbeats 2000000 in
theorem ID (F:Fence) (n:Nat) (h81:F.fn 81) (h:F.fn 82) (hn:4<=n) (hro:F.round=none) (x y:Int) (W:World):
 CallsIn F n Tryz.prog 82 #[.agg #[vI x,vI y]] W fun e W'=>e= .returned (.agg #[vI (kx x y),vI (ky x y)])/\W'=((W.alloc (bx x y)).alloc (bx (kx x y) (ky x y))).alloc (bx x y):=by
 have h1:1<=n:=by omega
 refine callsIn_of_wp Tryz.func82 rfl h ?_ hro;simp only [Tryz.ntmps82,List.size_toArray,List.length_cons,List.length_nil,Nat.reduceAdd,Nat.reduceSub,Array.replicate_succ,Array.replicate_zero,List.push_toArray,List.append_toArray,List.nil_append,List.cons_append]
 gi_wp2_with (gi_at_call 81;refine(qa F (n-1) h81 hro _ _ _).mono ?_;rintro e w' ⟨rfl,rfl⟩)
 all_goals
  rename_i hs;simp only [Bool.not_eq_true',Bool.not_eq_true,Bool.not_eq_false',Bool.not_eq_false]at hs;refine⟨rfl, .agg #[vI (kx x y),vI (ky x y)],?_,rfl,?_⟩<;>simp [results,Tryz.f82,go_sem,kx,ky,hs]
theorem b3 (W:World) (a b c:Obj):Below W.heap.size W (((W.alloc a).alloc b).alloc c):=(((Below.refl _ W).alloc (J1 _) _).alloc (by simp) _).alloc (by simp;omega) _
theorem b4 (W:World) (a b c d:Obj):Below W.heap.size W ((((W.alloc a).alloc b).alloc c).alloc d):=(b3 W a b c).alloc (by simp;omega) _
def VJ (x y u v:Int):Int:=if(iY x y&&iY u v)=true then wrap64 (wrap64 (x*u)+wrap64 (y*v))else 0
set_option maxRecDepth 100000 in
set_option maxHeartbeats 2000000 in
theorem Un (F:Fence) (n:Nat) (h81:F.fn 81) (h:F.fn 38) (hn:4<=n) (hro:F.round=none) (x y u v:Int) (W:World):
 CallsIn F n Tryz.prog 38 #[.agg #[vI x,vI y], .agg #[vI u,vI v]] W fun e W'=>e= .returned (vI (VJ x y u v))/\Below W.heap.size W W':=by
 have h1:1<=n:=by omega
 refine callsIn_of_wp Tryz.func38 rfl h ?_ hro;simp only [Tryz.ntmps38,List.size_toArray,List.length_cons,List.length_nil,Nat.reduceAdd,Nat.reduceSub,Array.replicate_succ,Array.replicate_zero,List.push_toArray,List.append_toArray,List.nil_append,List.cons_append]
 gi_wp2_with (gi_at_call 81;refine(qa F (n-1) h81 hro _ _ _).mono ?_;rintro e w' ⟨rfl,rfl⟩)
 all_goals
  go_ret
  refine⟨?_,by first|exact b4 _ _ _ _ _|exact b3 _ _ _ _⟩
  simp_all [VJ]
def Ho (x y u v:Int):Int:=if(iY x y&&iY u v)=true then wrap64 (wrap64 (x*v)-wrap64 (y*u))else 0
set_option maxRecDepth 100000 in
set_option maxHeartbeats 2000000 in
theorem Ot (F:Fence) (n:Nat) (h81:F.fn 81) (h:F.fn 175) (hn:4<=n) (hro:F.round=none) (x y u v:Int) (W:World):
 CallsIn F n Tryz.prog 175 #[.agg #[vI x,vI y], .agg #[vI u,vI v]] W fun e W'=>e= .returned (vI (Ho x y u v))/\Below W.heap.size W W':=by
 have h1:1<=n:=by omega
 refine callsIn_of_wp Tryz.func175 rfl h ?_ hro;simp only [Tryz.ntmps175,List.size_toArray,List.length_cons,List.length_nil,Nat.reduceAdd,Nat.reduceSub,Array.replicate_succ,Array.replicate_zero,List.push_toArray,List.append_toArray,List.nil_append,List.cons_append]
 gi_wp2_with (gi_at_call 81;refine(qa F (n-1) h81 hro _ _ _).mono ?_;rintro e w' ⟨rfl,rfl⟩)
 all_goals
  go_ret
  refine⟨?_,by first|exact b4 _ _ _ _ _|exact b3 _ _ _ _⟩
  simp_all [Ho]
def RV (x y u v:Int):Int:=if(iY x y&&iY u v)=true then kx (wrap64 (x-u)) (wrap64 (y-v))else 0
def H6 (x y u v:Int):Int:=if(iY x y&&iY u v)=true then ky (wrap64 (x-u)) (wrap64 (y-v))else 0
theorem bk (W:World) {W':World} (h:Below W.heap.size W W') (a:Obj):Below W.heap.size W (W'.alloc a):=h.alloc h.size _
set_option maxRecDepth 100000 in
set_option maxHeartbeats 2000000 in
theorem WG (F:Fence) (n:Nat) (h81:F.fn 81) (h82:F.fn 82) (h:F.fn 39) (hn:5<=n) (hro:F.round=none) (x y u v:Int) (W:World):
 CallsIn F n Tryz.prog 39 #[.agg #[vI x,vI y], .agg #[vI u,vI v]] W fun e W'=>e= .returned (.agg #[vI (RV x y u v),vI (H6 x y u v)])/\Below W.heap.size W W':=by
 have h1:1<=n:=by omega
 refine callsIn_of_wp Tryz.func39 rfl h ?_ hro;simp only [Tryz.ntmps39,List.size_toArray,List.length_cons,List.length_nil,Nat.reduceAdd,Nat.reduceSub,Array.replicate_succ,Array.replicate_zero,List.push_toArray,List.append_toArray,List.nil_append,List.cons_append]
 gi_wp2_with first
  |(gi_at_call 81;refine(qa F (n-1) h81 hro _ _ _).mono ?_;rintro e w' ⟨rfl,rfl⟩)
  |(gi_at_call 82;refine(ID F (n-1) h81 h82 (by omega) hro _ _ _).mono ?_;rintro e w' ⟨rfl,rfl⟩)
 all_goals
  refine⟨rfl, .agg #[vI (RV x y u v),vI (H6 x y u v)],?_,rfl,by repeat' first|exact Below.refl _ _|refine bk _ ?_ _⟩
  simp_all [results,Tryz.f39,go_sem,RV,H6]
def wa (x y:Int):Int:=
 let w:=IntKind.u64.wrap
 let m:=fun z=>bits BinOp.and IntKind.u64 z 4294967295
 let t:=w (w (x/4294967296*m y)+w (m x*m y)/4294967296)
 w (w (w (x/4294967296*(y/4294967296))+t/4294967296)+w (m t+w (m x*(y/4294967296)))/4294967296)
set_option maxRecDepth 100000 in
set_option maxHeartbeats 2000000 in
theorem Oz (F:Fence) (n:Nat) (h:F.fn 240) (hro:F.round=none) (x y:Int) (W:World):
 CallsIn F n Tryz.prog 240 #[.int .u64 x, .int .u64 y] W fun e W'=>e= .returned (.tuple #[.int .u64 (wa x y), .int .u64 (IntKind.u64.wrap (x*y))])/\W'=W:=by
 refine callsIn_of_wp Tryz.func240 rfl h ?_ hro;simp only [Tryz.ntmps240,List.size_toArray,List.length_cons,List.length_nil,Nat.reduceAdd,Nat.reduceSub,Array.replicate_succ,Array.replicate_zero,List.push_toArray,List.append_toArray,List.nil_append,List.cons_append]
 gi_wp2
 exact bodyPost_ret (results_tmp2 rfl _ _ _) rfl ⟨rfl,rfl⟩
end Go.Proofs.Top
namespace Go.Proofs.Top
open Go Go.Sx Go.Proofs Go.RowKit Go.Shelf Go.Proofs.Fi
variable [bW]
theorem rh {f n:Nat} {fn:Func} (hf:Tryz.prog.funcs[f]?=some fn) (hb:fn.body.isSome=true) (hname:(fn.name== "runtime.NumGoroutine")=false) (d:List SV->Option SV)
 (H: ∀args r,d args=some r-> ∀(R:RO) (vals:List Value),aQ R Own.empty args vals-> ∃v,(∀R':RO,Rel R' Own.empty r v)/\ ∀W,CallsIn Fence.wide n Tryz.prog f vals.toArray W fun e W'=>e= .returned v/\Below W.heap.size W W'):
 cS Tryz.prog f fun args=>(d args).map fun r=>(True,r):=by
 refine⟨⟨fn,hf,hb,hname⟩,fun args p r hc hp R w vals hR hrel=> ?_⟩;cases hd:d args with
 |none=>rw [hd]at hc;cases hc
 |some r'=>
  rw [hd]at hc;simp only [K4,J3,Q4]at hc;obtain⟨rfl,rfl⟩:=hc;obtain⟨v,hv,hcall⟩:=H args _ hd R vals.toList hrel;refine callsIn_wide.1 ((hcall w).mono ?_);rintro e W' ⟨rfl,hB⟩;exact⟨v,R,rfl,hv R, .refl _,fun b o v hv=>(hR b o v hv).of_heap (hB.block b (EC (hR _ _ _ hv).1)),fun _ _ _=>rfl,hB⟩
theorem Md {R:RO} {x y:Int} {vals:List Value} (h:aQ R Own.empty [.agg [.s (.int .i64 x), .s (.int .i64 y)]] vals):vals=[.agg #[vI x,vI y]]:=by
 match vals,h with
 |[a],⟨h0,_⟩=>rw [Dm h0]
theorem Dg {R:RO} {x y u v:Int} {vals:List Value} (h:aQ R Own.empty [.agg [.s (.int .i64 x), .s (.int .i64 y)], .agg [.s (.int .i64 u), .s (.int .i64 v)]] vals):vals=[.agg #[vI x,vI y], .agg #[vI u,vI v]]:=by
 match vals,h with
 |[a,b],⟨h0,h1,_⟩=>rw [Dm h0,Dm h1]
def bS (b:Bool):SV:=match b with
 |true=> .tt
 |false=> .ff
theorem W6 (R:RO) (b:Bool):Rel R Own.empty (bS b) (.bool b):=by
 cases b
 . exact .ff _
 . exact .tt _
def CD :List SV->Option SV
 |[.agg [.s (.int .i64 x), .s (.int .i64 y)]]=>some (bS (iY x y))
 |_=>none
theorem Nk :cS Tryz.prog 81 fun args=>(CD args).map fun r=>(True,r):=by
 refine rh (n:=9) Tryz.func81 (by kernel_rfl) (by kernel_rfl) CD fun args r hd R vals h=> ?_
 unfold CD at hd;split at hd
 case h_2=>cases hd
 simp only [J3]at hd;subst hd;rw [Md h];refine⟨_,fun R'=>W6 R' _,fun W=>(qa Fence.wide 9 trivial rfl _ _ W).mono ?_⟩;rintro e W' ⟨rfl,rfl⟩;exact⟨rfl,(Below.refl _ W).alloc (J1 _) _⟩
def Iy :List SV->Option SV
 |[.agg [.s (.int .i64 x), .s (.int .i64 y)]]=>some (.agg [.s (.int .i64 (kx x y)), .s (.int .i64 (ky x y))])
 |_=>none
theorem RJ :cS Tryz.prog 82 fun args=>(Iy args).map fun r=>(True,r):=by
 refine rh (n:=9) Tryz.func82 (by kernel_rfl) (by kernel_rfl) Iy fun args r hd R vals h=> ?_
 unfold Iy at hd;split at hd
 case h_2=>cases hd
 simp only [J3]at hd;subst hd;rw [Md h];refine⟨_,fun R'=>CT R' _ _,fun W=>(ID Fence.wide 9 trivial trivial (by decide) rfl _ _ W).mono ?_⟩;rintro e W' ⟨rfl,rfl⟩;exact⟨rfl,b3 _ _ _ _⟩
def R4 :List SV->Option SV
 |[.agg [.s (.int .i64 x), .s (.int .i64 y)], .agg [.s (.int .i64 u), .s (.int .i64 v)]]=>some (.int .i64 (VJ x y u v))
 |_=>none
theorem V4 :cS Tryz.prog 38 fun args=>(R4 args).map fun r=>(True,r):=by
 refine rh (n:=9) Tryz.func38 (by kernel_rfl) (by kernel_rfl) R4 fun args r hd R vals h=> ?_
 unfold R4 at hd;split at hd
 case h_2=>cases hd
 simp only [J3]at hd;subst hd;rw [Dg h];exact⟨_,fun R'=> .int _ _ _,fun W=>Un Fence.wide 9 trivial trivial (by decide) rfl _ _ _ _ W⟩
def Dp :List SV->Option SV
 |[.agg [.s (.int .i64 x), .s (.int .i64 y)], .agg [.s (.int .i64 u), .s (.int .i64 v)]]=>some (.int .i64 (Ho x y u v))
 |_=>none
theorem NG :cS Tryz.prog 175 fun args=>(Dp args).map fun r=>(True,r):=by
 refine rh (n:=9) Tryz.func175 (by kernel_rfl) (by kernel_rfl) Dp fun args r hd R vals h=> ?_
 unfold Dp at hd;split at hd
 case h_2=>cases hd
 simp only [J3]at hd;subst hd;rw [Dg h];exact⟨_,fun R'=> .int _ _ _,fun W=>Ot Fence.wide 9 trivial trivial (by decide) rfl _ _ _ _ W⟩
def R6 :List SV->Option SV
 |[.agg [.s (.int .i64 x), .s (.int .i64 y)], .agg [.s (.int .i64 u), .s (.int .i64 v)]]=>some (.agg [.s (.int .i64 (RV x y u v)), .s (.int .i64 (H6 x y u v))])
 |_=>none
theorem WN :cS Tryz.prog 39 fun args=>(R6 args).map fun r=>(True,r):=by
 refine rh (n:=9) Tryz.func39 (by kernel_rfl) (by kernel_rfl) R6 fun args r hd R vals h=> ?_
 unfold R6 at hd;split at hd
 case h_2=>cases hd
 simp only [J3]at hd;subst hd;rw [Dg h];exact⟨_,fun R'=>CT R' _ _,fun W=>WG Fence.wide 9 trivial trivial trivial (by decide) rfl _ _ _ _ W⟩
def Ct :List SV->Option SV
 |[.int .u64 x, .int .u64 y]=>some (.bp [.int .u64 (wa x y), .int .u64 (IntKind.u64.wrap (x*y))])
 |_=>none
theorem Oe :cS Tryz.prog 240 fun args=>(Ct args).map fun r=>(True,r):=by
 refine rh (n:=9) Tryz.func240 (by kernel_rfl) (by kernel_rfl) Ct fun args r hd R vals h=> ?_
 unfold Ct at hd;split at hd
 case h_2=>cases hd
 rename_i x y;simp only [J3]at hd;subst hd;have hv:vals=[.int .u64 x, .int .u64 y]:=by
  match vals,h with
  |[a,b],⟨h0,h1,_⟩=>rw [aK h0,aK h1]
 rw [hv];refine⟨.tuple #[.int .u64 (wa x y), .int .u64 (IntKind.u64.wrap (x*y))],fun R'=> ?_,fun W=>(Oz Fence.wide 9 trivial rfl x y W).mono ?_⟩
 . refine .bp _ _ _ rfl fun i sv hi=> ?_
   match i,hi with
   |0,hi=>simp at hi;subst hi;exact .int _ _ _
   |1,hi=>simp at hi;subst hi;exact .int _ _ _
   |i+2,hi=>simp at hi
 . rintro e W' ⟨rfl,rfl⟩;exact⟨rfl,Below.refl _ _⟩
end Go.Proofs.Top
