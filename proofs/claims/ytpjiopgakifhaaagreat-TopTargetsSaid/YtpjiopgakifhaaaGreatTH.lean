import Derived.Test.YtpjiopgakifhaaaGreatTG
import Derived.RangeFuncNested
import Derived.RangeFuncBound
import Derived.RangeFuncCalls
import Derived.RangeFuncLeaves
import Derived.RangeFuncBox
import Derived.Shelf.Abstract
import Derived.Shelf.RegionOpen
import Derived.WalkKit
import Derived.OwnWalkIn
import Derived.TacticsInMore
import Derived.LoopNIn
import Derived.LoopIn
import Derived.Maps.AppendAt
import Derived.Test.YtpjiopgakifhaaaGreatProg
import Derived.KernelRfl
set_option linter.unusedSectionVars false
set_option linter.unusedSimpArgs false
set_option linter.unusedVariables false
set_option maxRecDepth 100000
namespace Go.Proofs.Fi
open Go Go.Proofs Go.RowKit Go.Shelf
attribute [local go_sem] Oper.semAt_some
abbrev ptr (b:Nat):Value:= .pointer (some ⟨b,0,none⟩)
abbrev vI (n:Int):Value:= .int .i64 n
def boxes (w:World) (tc:Array Value) (c lv px py:Int):World:=(((w.alloc (.cells tc 37)).alloc (.cells #[.int .u32 c] 41)).alloc (.cells #[vI lv] 3)).alloc (.cells #[vI px,vI py] 25)
set_option maxRecDepth 100000 in
set_option maxHeartbeats 2000000 in
theorem JV (F:Fence) (n:Nat) (h24:F.fn 204) (hro:F.round=none) (tc:Array Value) (c lv px py:Int) (w:World):
 CallsIn F n Tryz.prog 204 #[.agg tc, .int .u32 c,vI lv, .agg #[vI px,vI py]] w fun e w'=>e= .returned (.func (.func 241) #[] #[ptr w.heap.size,ptr (w.heap.size+3),ptr (w.heap.size+2),ptr (w.heap.size+1)])/\w'=boxes w tc c lv px py:=by
 refine callsIn_of_wp Tryz.func204 rfl h24 ?_ hro;simp only [Tryz.ntmps204,List.size_toArray,List.length_cons,List.length_nil,Nat.reduceAdd,Nat.reduceSub,Array.replicate_succ,Array.replicate_zero,List.push_toArray,List.append_toArray,List.nil_append,List.cons_append]
 gi_wp2
 go_ret
 exact⟨rfl,rfl⟩
def enB (c k:Int):Bool:=k== -1||(decide (0<=k/\k<=31)&&bits .and .u32 (c/2^k.toNat) 1==1)
set_option maxRecDepth 100000 in
set_option maxHeartbeats 2000000 in
theorem YF (F:Fence) (n:Nat) (h27:F.fn 242) (hro:F.round=none) (c k:Int) (w:World):
 CallsIn F n Tryz.prog 242 #[.int .u32 c,vI k] w fun e w'=>e= .returned (.bool (enB c k))/\w'=w:=by
 refine callsIn_of_wp Tryz.func242 rfl h27 ?_ hro;simp only [Tryz.ntmps242,List.size_toArray,List.length_cons,List.length_nil,Nat.reduceAdd,Nat.reduceSub,Array.replicate_succ,Array.replicate_zero,List.push_toArray,List.append_toArray,List.nil_append,List.cons_append]
 gi_wp2
 . rename_i h1
   go_ret
   exact⟨by simp [enB,h1],rfl⟩
 . rename_i h1 h2 h3
   go_ret
   exact⟨by simp [enB,h2,h3],rfl⟩
 . rename_i h1 h2 h3
   go_ret
   exact⟨by simp [enB,h2,show¬k<=31 by omega],rfl⟩
 . rename_i h1 h2
   go_ret
   exact⟨by simp [enB,show¬0<=k by omega],rfl⟩
structure Zn where
 name : List UInt8
 level : Int
 lox : Int
 Zm : Int
 Ym : Int
 XC : Int
 hx : Int
 hy : Int
 Pw : Int
 deriving DecidableEq
instance : Inhabited Zn := ⟨⟨[], 0, 0, 0, 0, 0, 0, 0, 0⟩⟩
def Zn.cells (z:Zn):Array Value:= #[.string ⟨z.name.toArray⟩,vI z.level,vI z.lox,vI z.Zm,vI z.Ym,vI z.XC,vI z.hx,vI z.hy,vI z.Pw]
def act (c lv px py:Int) (z:Zn):Bool:=decide (z.lox<px)&&decide (px<z.Ym)&&decide (z.Zm<py)&&decide (py<z.XC)&&z.level==lv&&enB c z.Pw
theorem M7 {c lv px py:Int} {z:Zn}:act c lv px py z=true↔z.lox<px/\px<z.Ym/\z.Zm<py/\py<z.XC/\z.level=lv/\enB c z.Pw=true:=by
 simp [act,and_assoc]
theorem hZ {W:World} {a:Addr} {v:Value} (o:Obj) (h:W.cell? a=some v):(W.alloc o).cell? a=some v:=cell_kept h (World.grownBy_alloc W o none) (fun r e=>by cases e)
def iT (p:Zn->Bool) (zs:List Zn):Nat->List (Int×Zn)
 |0=>[]
 |k+1=>if p (zs.getD k default)then iT p zs k++[((k:Int),zs.getD k default)]else iT p zs k
theorem DV (p:Zn->Bool) (zs:List Zn): ∀k,(iT p zs k).length<=k
 |0=>J1 _
 |k+1=>by
  have:=DV p zs k;simp only [iT];split<;>simp<;>omega
def DI (n₀ B:Nat) (W W':World):Prop:=Below n₀ W W'/\ ∀k,B<=k->k<B+4->W'.heap[k]?=W.heap[k]?
theorem DI.refl (n₀ B:Nat) (W:World):DI n₀ B W W:=⟨Below.refl _ _,fun _ _ _=>rfl⟩
theorem DI.trans {n₀ B:Nat} {a b c:World} (h:DI n₀ B a b) (k:DI n₀ B b c):DI n₀ B a c:=⟨h.1.trans k.1,fun i h1 h2=>(k.2 i h1 h2).trans (h.2 i h1 h2)⟩
theorem DI.alloc {n₀ B:Nat} {W W':World} (h:DI n₀ B W W') (h1:n₀<=W'.heap.size) (h2:B+4<=W'.heap.size) (o:Obj):DI n₀ B W (W'.alloc o):=
 ⟨h.1.alloc h1 o,fun k k1 k2=>((World.grownBy_alloc W' o none).block k (by omega) (by simp)).trans (h.2 k k1 k2)⟩
theorem DI.cell {n₀ B:Nat} {W W':World} (h:DI n₀ B W W') {b o:Nat} (hb:b<n₀\/(B<=b/\b<B+4)):W'.cell? ⟨b,o,none⟩=W.cell? ⟨b,o,none⟩:=by
 have e:W'.heap[b]?=W.heap[b]?:=by
  rcases hb with hb|⟨h1,h2⟩
  . exact h.1.block b hb
  . exact h.2 b h1 h2
 simp only [World.cell?,e]
set_option maxRecDepth 100000 in
set_option maxHeartbeats 4000000 in
theorem Ra (F:Fence) (n:Nat) (h26:F.fn 241) (h27:F.fn 242) (hro:F.round=none) (hn:2<=n) (l B n₀ b off cap:Nat) (zs:List Zn) (hreach:zs.length<=9223372036854775807) (c lv px py:Int) (hb:b<n₀) (J Jx:List (Int×Zn)->World->Prop) (W:World) (hJ:AbidesFrom W.heap.size J)
 (hY: ∀pre x W1,J pre W1->pre.length<zs.length->YieldAt F (n-1) Tryz.prog l #[vI x.1, .agg x.2.cells] W1 fun e W'=>
  (e= .returned (.bool true)/\J (pre++[x]) W'/\DI n₀ B W1 W')\/(e= .returned (.bool false)/\Jx (pre++[x]) W'))
 (hsz:n₀<=W.heap.size/\B+4<=W.heap.size)
 (hT:W.cell? ⟨B,12,none⟩=some (.slice (some ⟨b,off,none⟩) zs.length cap)) (hC:W.cell? ⟨B+1,0,none⟩=some (.int .u32 c)) (hL:W.cell? ⟨B+2,0,none⟩=some (vI lv)) (hP:W.cell? ⟨B+3,0,none⟩=some (vI px)) (hQ:W.cell? ⟨B+3,1,none⟩=some (vI py))
 (hz: ∀j,j<zs.length-> ∀i,i<9->W.cell? ⟨b,off+j*9+i,none⟩=some ((zs.getD j default).cells.getD i undef)) (h0:J [] W):
 CallsIn F n Tryz.prog 241 (#[.func (.yield l) #[] #[]]++ #[ptr B,ptr (B+3),ptr (B+2),ptr (B+1)]) W fun e W'=>(∃v,e= .returned v)/\
  ((∃xs,xs=iT (act c lv px py) zs zs.length/\J xs W')\/(∃pre,True/\Jx pre W')):=by
 refine callsIn_of_wp Tryz.func241 rfl h26 ?_ hro;simp only [Tryz.ntmps241,List.size_toArray,List.length_cons,List.length_nil,Nat.reduceAdd,Nat.reduceSub,Array.replicate_succ,Array.replicate_zero,List.push_toArray,List.append_toArray,List.nil_append,List.cons_append]
 gi_wp2
 gi_loopw [12] (fun i wr=> ∃k:Nat,k<=zs.length/\i=vI k/\J (iT (act c lv px py) zs k) wr/\DI n₀ B W wr/\W.heap.size<=wr.heap.size)
  (fun i _=>zs.length-(intOf i).toNat)
 case atStart=>exact⟨0,Nat.zero_le _,rfl,h0,DI.refl _ _ _,Nat.le_refl _⟩
 case round=>
  obtain⟨k,hk,rfl,hJs,hnx,hsz2⟩:=hrel
  by_cases hlt:k<zs.length
  . have hc: ∀i,i<9->wr.cell? ⟨b,off+k*9+i,none⟩=some ((zs.getD k default).cells.getD i undef):=fun i hi=>(hnx.cell (.inl hb)).trans (hz k hlt i hi)
    have c0:wr.cell? ⟨b,off+k*9,none⟩=some (.string ⟨(zs.getD k default).name.toArray⟩):=hc 0 (by omega);have c1:wr.cell? ⟨b,off+k*9+1,none⟩=some (vI (zs.getD k default).level):=hc 1 (by omega);have c2:wr.cell? ⟨b,off+k*9+2,none⟩=some (vI (zs.getD k default).lox):=hc 2 (by omega);have c3:wr.cell? ⟨b,off+k*9+3,none⟩=some (vI (zs.getD k default).Zm):=hc 3 (by omega);have c4:wr.cell? ⟨b,off+k*9+4,none⟩=some (vI (zs.getD k default).Ym):=hc 4 (by omega)
    have c5:wr.cell? ⟨b,off+k*9+5,none⟩=some (vI (zs.getD k default).XC):=hc 5 (by omega);have c6:wr.cell? ⟨b,off+k*9+6,none⟩=some (vI (zs.getD k default).hx):=hc 6 (by omega);have c7:wr.cell? ⟨b,off+k*9+7,none⟩=some (vI (zs.getD k default).hy):=hc 7 (by omega);have c8:wr.cell? ⟨b,off+k*9+8,none⟩=some (vI (zs.getD k default).Pw):=hc 8 (by omega);clear hc;have h1n:1<=n:=by omega
    obtain⟨z,ez⟩: ∃z,zs.getD k default=z:=⟨_,rfl⟩;rw [ez]at c0 c1 c2 c3 c4 c5 c6 c7 c8;have hC':=(hnx.cell (b:=B+1) (o:=0) (.inr (by omega))).trans hC;have hL':=(hnx.cell (b:=B+2) (o:=0) (.inr (by omega))).trans hL;have hP':=(hnx.cell (b:=B+3) (o:=0) (.inr (by omega))).trans hP;have hQ':=(hnx.cell (b:=B+3) (o:=1) (.inr (by omega))).trans hQ;clear hz hT hC hL hP hQ;have hC2: ∀o,(wr.alloc o).cell? ⟨B+1,0,none⟩=some (.int .u32 c):=fun o=>hZ _ hC'
    have hL2: ∀o,(wr.alloc o).cell? ⟨B+2,0,none⟩=some (vI lv):=fun o=>hZ _ hL'
    have hP2: ∀o,(wr.alloc o).cell? ⟨B+3,0,none⟩=some (vI px):=fun o=>hZ _ hP'
    have hQ2: ∀o,(wr.alloc o).cell? ⟨B+3,1,none⟩=some (vI py):=fun o=>hZ _ hQ'
    have grow: ∀o:Obj,J (iT (act c lv px py) zs k) (wr.alloc o):=fun o=>hJ _ _ _ none hJs (World.grownBy_alloc wr o none) (fun r e=>by cases e)
    have kp: ∀o,DI n₀ B W (wr.alloc o):=fun o=>hnx.alloc (by omega) (by omega) o
    have hw:wrap64 ((k:Int)+1)=((k+1:Nat):Int):=by
     simp only [wrap64];omega
    have miss: ¬act c lv px py z=true->iT (act c lv px py) zs (k+1)=iT (act c lv px py) zs k:=fun h=>by
     simp only [iT,ez];rw [if_neg h]
    have hit:act c lv px py z=true->iT (act c lv px py) zs (k+1)=iT (act c lv px py) zs k++[((k:Int),z)]:=fun h=>by
     simp only [iT,ez];rw [if_pos h]
    have hlen:=DV (act c lv px py) zs k
    gi_wp2_with (gi_at_call 242;refine(YF F (n-1) h27 hro _ _ _).mono ?_;rintro e w' ⟨rfl,rfl⟩)
    all_goals try (refine⟨fun _ h=>(by cases h),?_⟩;gi_wp2)
    case isTrue=>
     have h1:z.lox<px:=by assumption
     have h2:px<z.Ym:=by assumption
     have h3:z.Zm<py:=by assumption
     have h4:py<z.XC:=by assumption
     have h5:z.level=lv:=by assumption
     have h6:enB c z.Pw=true:=by assumption
     have ha:=M7.2 ⟨h1,h2,h3,h4,h5,h6⟩;obtain⟨fn,tmps,assign,body,hy,hR⟩:=hY _ ((k:Int),z) _ (grow (Obj.cells z.cells 131)) (by omega);simp only [Zn.cells]at hy hR;rw [h5]at hy hR;simp only [vI]at hy hR;rw [hy]
     gi_wp2
     refine hR.mono ?_;rintro e W3 (⟨rfl,hJ3,hk3⟩|⟨rfl,hJx3⟩)
     . gi_wp2
       go_roundw
       case rel=>
        refine⟨k+1,by omega,by simp,by rw [hit ha];exact hJ3,(kp _).trans hk3,?_⟩;have:=hk3.1.size;simp at this;omega
       case measure=>simp [intOf];omega
     . gi_wp2
       refine bodyPost_ret (results_none rfl _ _ _) rfl ?_;exact⟨⟨_,rfl⟩, .inr ⟨_,trivial,hJx3⟩⟩
    all_goals
     have hm: ¬act c lv px py z=true:=by
      rw [M7];rintro⟨a1,a2,a3,a4,a5,a6⟩
      first|omega|contradiction
     refine⟨⟨k+1,by omega,by simp,by rw [miss hm];exact grow _,kp _,by simp;omega⟩,by simp [intOf];omega⟩
  . obtain rfl:k=zs.length:=by omega
    gi_wp2
    go_end0
    exact⟨⟨_,rfl⟩, .inl ⟨_,rfl,hJs⟩⟩
attribute [irreducible] act enB
set_option maxRecDepth 100000 in
set_option maxHeartbeats 2000000 in
theorem P5 (F:Fence) (n:Nat) (h26:F.fn 241) (hro:F.round=none) (l B:Nat) (ad:Option Addr) (cap:Nat) (J:List (Int×Zn)->World->Prop) (W:World)
 (hT:W.cell? ⟨B,12,none⟩=some (.slice ad 0 cap)) (h0:J [] W):
 CallsIn F n Tryz.prog 241 (#[.func (.yield l) #[] #[]]++ #[ptr B,ptr (B+3),ptr (B+2),ptr (B+1)]) W fun e W'=>(∃v,e= .returned v)/\J [] W':=by
 refine callsIn_of_wp Tryz.func241 rfl h26 ?_ hro;simp only [Tryz.ntmps241,List.size_toArray,List.length_cons,List.length_nil,Nat.reduceAdd,Nat.reduceSub,Array.replicate_succ,Array.replicate_zero,List.push_toArray,List.append_toArray,List.nil_append,List.cons_append]
 gi_wp2
 gi_loopw [12] (fun i wr=>i=vI 0/\J [] wr) (fun _ _=>0)
 case atStart=>exact⟨rfl,h0⟩
 case round=>
  obtain⟨rfl,hJs⟩:=hrel
  gi_wp2
  go_end0
  exact⟨⟨_,rfl⟩,hJs⟩
def FG (n₀:Nat) (W:World) (sv:Value) (zs:List Zn):Prop:=
 (zs=[]/\ ∃ad cap,sv= .slice ad 0 cap)\/ ∃b off cap,sv= .slice (some ⟨b,off,none⟩) zs.length cap/\b<n₀/\ ∀j,j<zs.length-> ∀i,i<9->W.cell? ⟨b,off+j*9+i,none⟩=some ((zs.getD j default).cells.getD i undef)
theorem FG.XQ {n₀:Nat} {W W':World} {sv:Value} {zs:List Zn} (h:FG n₀ W sv zs) (k:Below n₀ W W'):FG n₀ W' sv zs:=by
 rcases h with h|⟨b,off,cap,e,hb,hc⟩
 . exact .inl h
 . exact .inr ⟨b,off,cap,e,hb,fun j hj i hi=>(k.cell (p:=⟨b,off+j*9+i,none⟩) hb).trans (hc j hj i hi)⟩
theorem HN (F:Fence) (n:Nat) (h26:F.fn 241) (h27:F.fn 242) (hro:F.round=none) (hn:2<=n) (B n₀:Nat) (sv:Value) (zs:List Zn) (hreach:zs.length<=9223372036854775807) (c lv px py:Int) (w:World) (hsz:n₀<=w.heap.size/\B+4<=w.heap.size)
 (hT:w.cell? ⟨B,12,none⟩=some sv) (hC:w.cell? ⟨B+1,0,none⟩=some (.int .u32 c)) (hL:w.cell? ⟨B+2,0,none⟩=some (vI lv)) (hP:w.cell? ⟨B+3,0,none⟩=some (vI px)) (hQ:w.cell? ⟨B+3,1,none⟩=some (vI py)) (hz:FG n₀ w sv zs):
 SeqStopsK F n Tryz.prog 241 #[ptr B,ptr (B+3),ptr (B+2),ptr (B+1)] (fun x:Int×Zn=> #[vI x.1, .agg x.2.cells]) (DI n₀ B) (fun xs=>xs=iT (act c lv px py) zs zs.length) (fun _=>True) zs.length w:=fun l J Jx W hW hJ hJx hY h0=>by
 have hs:=hW.size;have cl: ∀{b o:Nat} {v:Value},b<w.heap.size->w.cell? ⟨b,o,none⟩=some v->W.cell? ⟨b,o,none⟩=some v:=fun {b o v} hb h=>(hW.cell (p:=⟨b,o,none⟩) hb).trans h
 rcases hz.XQ (hW.mono hsz.1)with⟨rfl,ad,cap,rfl⟩|⟨b,off,cap,rfl,hb,hcs⟩
 . exact(P5 F n h26 hro l B ad cap J W (cl (by omega) hT) h0).mono fun e W' ⟨he,hj⟩=>⟨he, .inl ⟨_,rfl,hj⟩⟩
 . exact Ra F n h26 h27 hro hn l B n₀ b off cap zs hreach c lv px py hb J Jx W hJ hY ⟨by omega,by omega⟩ (cl (by omega) hT) (cl (by omega) hC) (cl (by omega) hL) (cl (by omega) hP) (cl (by omega) hQ) hcs h0
theorem HM {n₀ B:Nat} {w W:World} (h0:n₀<=w.heap.size) (hB:B+4<=w.heap.size) (l:Nat) (o o':Obj) (hl:w.heap.size<=l) (ho:W.heap[l]?=some o):DI n₀ B W (W.putObj l o'):=by
 have hg:=grownBy_putObj' W l o';have lt:=(K3.1 ho).1;refine⟨(Below.refl n₀ W).grown hg (by omega) (fun k e=>by cases e;omega),fun k h1 h2=>hg.block k (by omega) (fun e=>by cases e;omega)⟩
theorem dQ {W:World} {k:Nat} (o:Obj) (h:k<W.heap.size):(W.alloc o).heap[k]?=W.heap[k]?:=(World.grownBy_alloc W o none).block k h (by simp)
theorem cell_of {W:World} {b o:Nat} {cs:Array Value} {t:TypeId} {fr:Nat×Nat} (h:W.heap[b]?=some (.cells cs t fr)):W.cell? ⟨b,o,none⟩=cs[o]?:=by simp [World.cell?,h]
theorem D8 (W:World) (tc:Array Value) (c lv px py:Int):(boxes W tc c lv px py).heap.size=W.heap.size+4/\(boxes W tc c lv px py).heap[W.heap.size]?=some (.cells tc 37 (0,0))/\(boxes W tc c lv px py).heap[W.heap.size+1]?=some (.cells #[.int .u32 c] 41 (0,0))/\
 (boxes W tc c lv px py).heap[W.heap.size+2]?=some (.cells #[vI lv] 3 (0,0))/\(boxes W tc c lv px py).heap[W.heap.size+3]?=some (.cells #[vI px,vI py] 25 (0,0))/\(∀k,k<W.heap.size->(boxes W tc c lv px py).heap[k]?=W.heap[k]?)/\Below W.heap.size W (boxes W tc c lv px py):=by
 have e0:=World.alloc_heap_new W (.cells tc 37);have e1:=World.alloc_heap_new (W.alloc (.cells tc 37)) (.cells #[.int .u32 c] 41);have e2:=World.alloc_heap_new ((W.alloc (.cells tc 37)).alloc (.cells #[.int .u32 c] 41)) (.cells #[vI lv] 3);have e3:=World.alloc_heap_new (((W.alloc (.cells tc 37)).alloc (.cells #[.int .u32 c] 41)).alloc (.cells #[vI lv] 3)) (.cells #[vI px,vI py] 25);simp only [World.size_alloc]at e0 e1 e2 e3
 unfold boxes;refine⟨by simp,?_,?_,?_,?_,fun k hk=> ?_,(((Below.refl _ W).alloc (J1 _) _).alloc (by simp) _).alloc (by simp;omega) _|>.alloc (by simp;omega) _⟩
 . rw [dQ _ (by simp;omega),dQ _ (by simp;omega),dQ _ (by simp)];exact e0
 . rw [dQ _ (by simp),dQ _ (by simp)];exact e1
 . rw [dQ _ (by simp)];exact e2
 . exact e3
 . rw [dQ _ (by simp;omega),dQ _ (by simp;omega),dQ _ (by simp;omega),dQ _ hk]
def Cells (W:World) (B:Nat) (t:TypeId) (cs:Array Value):Prop:=W.heap[B]?=some (.cells cs t (0,0))
theorem Cells.lt {W:World} {B:Nat} {t:TypeId} {cs:Array Value} (h:Cells W B t cs):B<W.heap.size:=(K3.1 h).1
theorem Cells.cell {W:World} {B:Nat} {t:TypeId} {cs:Array Value} (h:Cells W B t cs) (o:Nat):W.cell? ⟨B,o,none⟩=cs[o]?:=cell_of h
theorem Cells.frozen {W:World} {B:Nat} {t:TypeId} {cs:Array Value} (h:Cells W B t cs) (o:Nat) (v:Value) (hv:cs[o]?=some v):W.frozen? ⟨B,o,none⟩=false:=by
 simp [World.frozen?,show W.heap[B]?=_ from h]
theorem Cells.alloc {W:World} {B:Nat} {t:TypeId} {cs:Array Value} (h:Cells W B t cs) (o:Obj):Cells (W.alloc o) B t cs:=(dQ o h.lt).trans h
theorem Cells.own {β:Type} (B:Nat) (t:TypeId) (f:β->Array Value):Own (fun s W=>Cells W B t (f s)):=fun s X Y row hs hg hrow=>
 (hg.block B hs.lt (fun e=>by
  obtain⟨o,ho,hc⟩:=hrow B e.symm;rw [show X.heap[B]?=_ from hs]at ho;cases ho;cases hc)).trans hs
theorem Cells.same {W W':World} {B:Nat} {t:TypeId} {cs:Array Value} (h:Cells W B t cs) (e:W'.heap[B]?=W.heap[B]?):Cells W' B t cs:=e.trans h
theorem rH {W:World} {b o:Nat} {v:Value} {k:Nat} (h:k≠b):(W.setCell ⟨b,o,none⟩ v).heap[k]?=W.heap[k]?:=by
 simp [World.setCell,Zc,Yv h]
theorem Cells.set {W:World} {B o:Nat} {t:TypeId} {cs:Array Value} (h:Cells W B t cs) (v:Value):Cells (W.setCell ⟨B,o,none⟩ v) B t (cs.setIfInBounds o v):=by
 unfold Cells at h⊢;simp [World.setCell,Zc,h]
def iU (gx gy:Int) (pre:List (Int×Zn)):Int×Int:=pre.foldl (fun s x=>(wrap64 (s.1+x.2.hx),wrap64 (s.2+x.2.hy))) (gx,gy)
theorem KL (gx gy:Int) (pre:List (Int×Zn)) (x:Int×Zn):iU gx gy (pre++[x])=(wrap64 ((iU gx gy pre).1+x.2.hx),wrap64 ((iU gx gy pre).2+x.2.hy)):=by simp [iU]
set_option maxRecDepth 100000 in
set_option maxHeartbeats 4000000 in
theorem Ee (F:Fence) (n l:Nat) (Q:Exit->Act->World->Prop) (u0 u1 u2 u3 u4 u5 u6 u7 u8 u9 u10 u11 u12 u13 u14 u15 u16 u17 u18 u19 u21 u22 u23 u24 u25 u26 u27 u28 u29 u30 u31 u32 u33 u34 u35:Value) (W:World) (x:Int×Zn)
 (hQ:Q .normal {tmps:= #[u0,u1,u2,u3,u4,u5,u6,u7,u8,u9,u10,ptr W.heap.size,u12,u13,u14,u15,u16,u17,u18,u19, .agg x.2.cells,u21,u22,u23,u24,u25,u26,u27,u28,u29,u30,u31,u32,u33,u34,u35],defers:=[]} (W.alloc (.cells x.2.cells 131))):
 Code.wpIn (F.inRound l) (n-1-1) Tryz.prog
  (Code.region 3
   #[{dst:=some 11,op:=Op.alloc 131,type:=0,pos:= "field.go:39",after:= #[],guard:=none},
    {dst:=none,op:=Op.store 131 (Operand.tmp 11) (Operand.tmp 20),type:=0,pos:= "field.go:39",after:= #[{on:=0,ground:=Ground.data},{on:=0,ground:=Ground.phase}],guard:=none}]
   false) Q {tmps:= #[u0,u1,u2,u3,u4,u5,u6,u7,u8,u9,u10,u11,u12,u13,u14,u15,u16,u17,u18,u19, .agg x.2.cells,u21,u22,u23,u24,u25,u26,u27,u28,u29,u30,u31,u32,u33,u34,u35],defers:=[]} W:=by
 obtain⟨xi,z⟩:=x;simp only [Zn.cells]at hQ⊢
 gi_wp2
 exact hQ
set_option maxRecDepth 100000 in
set_option maxHeartbeats 4000000 in
theorem RK (F:Fence) (n l:Nat) (Q:Exit->Act->World->Prop) (u0 u1 u2 u3 u4 u5 u6 u7 u8 u10 u12 u13 u14 u15 u16 u17 u18 u19 u20 u21 u22 u23 u24 u25 u26 u27 u28 u29 u30 u31 u32 u33 u34 u35:Value) (B9 Bx:Nat) (sx sy:Int) (z:Zn) (W:World) (hx:Cells W Bx 131 z.cells) (hs:Cells W B9 25 #[vI sx,vI sy])
 (hQ: ∀a,Q .normal a ((W.setCell ⟨B9,0,none⟩ (vI (wrap64 (sx+z.hx)))).setCell ⟨B9,1,none⟩ (vI (wrap64 (sy+z.hy))))):
 Code.wpIn (F.inRound l) (n-1-1) Tryz.prog
  (Code.block 1
   (Code.region 4
    #[{dst:=some 21,op:=Op.fieldAddr 25 (Operand.tmp 9) 0,type:=0,pos:= "field.go:40",after:= #[],guard:=none},
     {dst:=some 22,op:=Op.load 3 (Operand.tmp 21),type:=3,pos:= "field.go:40",after:= #[{on:=0,ground:=Ground.data}],guard:=none},
     {dst:=some 23,op:=Op.fieldAddr 131 (Operand.tmp 11) 4,type:=0,pos:= "field.go:40",after:= #[],guard:=none},
     {dst:=some 24,op:=Op.fieldAddr 25 (Operand.tmp 23) 0,type:=0,pos:= "field.go:40",after:= #[{on:=2,ground:=Ground.data}],guard:=none},
     {dst:=some 25,op:=Op.load 3 (Operand.tmp 24),type:=3,pos:= "field.go:40",after:= #[{on:=3,ground:=Ground.data}],guard:=none},
     {dst:=some 26,op:=Op.binOp BinOp.add 3 (Operand.tmp 22) (Operand.tmp 25) 3,type:=3,pos:= "field.go:40",after:= #[{on:=1,ground:=Ground.data},{on:=4,ground:=Ground.data}],guard:=none},
     {dst:=some 27,op:=Op.fieldAddr 25 (Operand.tmp 9) 1,type:=0,pos:= "field.go:40",after:= #[],guard:=none},
     {dst:=some 28,op:=Op.load 3 (Operand.tmp 27),type:=3,pos:= "field.go:40",after:= #[{on:=6,ground:=Ground.data}],guard:=none},
     {dst:=some 29,op:=Op.fieldAddr 131 (Operand.tmp 11) 4,type:=0,pos:= "field.go:40",after:= #[],guard:=none},
     {dst:=some 30,op:=Op.fieldAddr 25 (Operand.tmp 29) 1,type:=0,pos:= "field.go:40",after:= #[{on:=8,ground:=Ground.data}],guard:=none},
     {dst:=some 31,op:=Op.load 3 (Operand.tmp 30),type:=3,pos:= "field.go:40",after:= #[{on:=9,ground:=Ground.data}],guard:=none},
     {dst:=some 32,op:=Op.binOp BinOp.add 3 (Operand.tmp 28) (Operand.tmp 31) 3,type:=3,pos:= "field.go:40",after:= #[{on:=7,ground:=Ground.data},{on:=10,ground:=Ground.data}],guard:=none},
     {dst:=some 33,op:=Op.build 25 #[(0,Operand.tmp 26),(1,Operand.tmp 32)],type:=25,pos:= "field.go:40",after:= #[{on:=5,ground:=Ground.data},{on:=11,ground:=Ground.data}],guard:=none},
     {dst:=none,op:=Op.store 25 (Operand.tmp 9) (Operand.tmp 33),type:=0,pos:= "field.go:40",
      after:=
       #[{on:=12,ground:=Ground.data},{on:=0,ground:=Ground.phase},
        {on:=1,ground:=Ground.phase},{on:=2,ground:=Ground.phase},
        {on:=3,ground:=Ground.phase},{on:=4,ground:=Ground.phase},
        {on:=5,ground:=Ground.phase},{on:=6,ground:=Ground.phase},
        {on:=7,ground:=Ground.phase},{on:=8,ground:=Ground.phase},
        {on:=9,ground:=Ground.phase},{on:=10,ground:=Ground.phase},
        {on:=11,ground:=Ground.phase},{on:=12,ground:=Ground.phase}],guard:=none}]
    false)) Q {tmps:= #[u0,u1,u2,u3,u4,u5,u6,u7,u8,ptr B9,u10,ptr Bx,u12,u13,u14,u15,u16,u17,u18,u19,u20,u21,u22,u23,u24,u25,u26,u27,u28,u29,u30,u31,u32,u33,u34,u35],defers:=[]} W:=by
 have c6:W.cell? ⟨Bx,6,none⟩=some (vI z.hx):=hx.cell 6;have c7:W.cell? ⟨Bx,7,none⟩=some (vI z.hy):=hx.cell 7;have d0:W.cell? ⟨B9,0,none⟩=some (vI sx):=hs.cell 0;have d1:W.cell? ⟨B9,1,none⟩=some (vI sy):=hs.cell 1;have f0:=hs.frozen 0 _ rfl;have f1:=hs.frozen 1 _ rfl;have hs2:=hs.set (o:=0) (vI (wrap64 (sx+z.hx)));have g1:(W.setCell ⟨B9,0,none⟩ (vI (wrap64 (sx+z.hx)))).cell? ⟨B9,1,none⟩=some (vI sy):=hs2.cell 1
 have k1:=hs2.frozen 1 _ rfl;clear hx hs hs2
 gi_wp2
 exact hQ _
set_option maxRecDepth 100000 in
set_option maxHeartbeats 40000000 in
theorem QT (F:Fence) (n:Nat) (h19:F.fn 135) (h22:F.fn 202) (h24:F.fn 204) (h26:F.fn 241) (h27:F.fn 242) (hro:F.round=none) (hn:4<=n) (v0 v1 v2 v5 v6 v7 v8 v9 v10 v11 v12 v13 v14 v15 v16 v17:Value) (gx gy:Int) (zs:List Zn) (hreach:zs.length<=1000000) (c lv px py:Int) (lim:Int->Int)
 (hlim: ∀(x y:Int) (W:World),CallsIn F (n-1) Tryz.prog 202 #[.agg #[vI x,vI y],vI 1024] W fun e W'=>e= .returned (.agg #[vI (lim x),vI (lim y)])/\Below W.heap.size W W') (w:World) (hz:FG w.heap.size w v12 zs):
 CallsIn F n Tryz.prog 135 #[.agg #[v0,v1,v2,vI gx,vI gy,v5,v6,v7,v8,v9,v10,v11,v12,v13,v14,v15,v16,v17], .int .u32 c,vI lv, .agg #[vI px,vI py]] w fun e W'=>
  e= .returned (.agg #[vI (lim (iU gx gy (iT (act c lv px py) zs zs.length)).1),vI (lim (iU gx gy (iT (act c lv px py) zs zs.length)).2)])/\Below w.heap.size w W':=by
 have h1:1<=n:=by omega
 refine callsIn_of_wp_marks Tryz.func135 rfl h19 ?_ hro;simp only [Tryz.ntmps135,List.size_toArray,List.length_cons,List.length_nil,Nat.reduceAdd,Nat.reduceSub,Array.replicate_succ,Array.replicate_zero,List.push_toArray,List.append_toArray,List.nil_append,List.cons_append]
 gi_wp2_with (gi_at_call 204;refine(JV F (n-1) h24 hro _ _ _ _ _ _).mono ?_;rintro e w' ⟨rfl,rfl⟩)
 obtain⟨W0,hW0⟩: ∃W0,((((w.alloc (Obj.cells #[v0,v1,v2,vI gx,vI gy,v5,v6,v7,v8,v9,v10,v11,v12,v13,v14,v15,v16,v17] 37)).alloc (Obj.cells #[vI px,vI py] 25)).alloc (Obj.cells #[Value.int IntKind.i64 0,Value.int IntKind.i64 0] 25)).alloc (Obj.cells #[Value.int IntKind.i64 gx,Value.int IntKind.i64 gy] 25))=W0:=⟨_,rfl⟩;have s0:W0.heap.size=w.heap.size+4:=by rw [<-hW0];simp
 have b9:Cells W0 (w.heap.size+3) 25 #[vI gx,vI gy]:=by
  have:=World.alloc_heap_new (((w.alloc (Obj.cells #[v0,v1,v2,vI gx,vI gy,v5,v6,v7,v8,v9,v10,v11,v12,v13,v14,v15,v16,v17] 37)).alloc (Obj.cells #[vI px,vI py] 25)).alloc (Obj.cells #[Value.int IntKind.i64 0,Value.int IntKind.i64 0] 25)) (Obj.cells #[vI gx,vI gy] 25);rw [hW0]at this;simp only [World.size_alloc]at this;exact this
 have b8:Cells W0 (w.heap.size+2) 25 #[vI 0,vI 0]:=by
  have:=World.alloc_heap_new ((w.alloc (Obj.cells #[v0,v1,v2,vI gx,vI gy,v5,v6,v7,v8,v9,v10,v11,v12,v13,v14,v15,v16,v17] 37)).alloc (Obj.cells #[vI px,vI py] 25)) (Obj.cells #[vI 0,vI 0] 25);rw [<-hW0];exact(dQ _ (by simp)).trans (by simpa using this)
 have hB0:Below w.heap.size w W0:=by
  rw [<-hW0];exact((((Below.refl _ w).alloc (Nat.le_refl _) _).alloc (by simp) _).alloc (by simp;omega) _).alloc (by simp;omega) _
 rw [hW0];have bf:=D8 W0 #[v0,v1,v2,vI gx,vI gy,v5,v6,v7,v8,v9,v10,v11,v12,v13,v14,v15,v16,v17] c lv px py;have eS:w.heap.size+1+1+1+1=W0.heap.size:=by omega
 rw [eS];obtain⟨W1,hW1⟩: ∃W1,boxes W0 #[v0,v1,v2,vI gx,vI gy,v5,v6,v7,v8,v9,v10,v11,v12,v13,v14,v15,v16,v17] c lv px py=W1:=⟨_,rfl⟩;rw [hW1]at bf⊢;obtain⟨s1,fT,fC,fL,fP,fO,fB⟩:=bf;have b9':Cells W1 (w.heap.size+3) 25 #[vI gx,vI gy]:=(fO _ (by omega)).trans b9;have b8':Cells W1 (w.heap.size+2) 25 #[vI 0,vI 0]:=(fO _ (by omega)).trans b8;have hB1:Below w.heap.size w W1:=hB0.trans (fB.mono (by omega))
 clear fO fB hB0 b9 b8 hW0 hW1 eS;refine wpIn_rangeFunc_ownH hro h1 (gf:=241) (lb:= #[ptr W0.heap.size,ptr (W0.heap.size+3),ptr (W0.heap.size+2),ptr (W0.heap.size+1)]) rfl h26 (enters_of Tryz.func241 (by kernel_rfl) rfl)
  (HN F (n-1) h26 h27 hro (by omega) W0.heap.size w.heap.size v12 zs (by omega) c lv px py W1 ⟨by omega,by omega⟩ (by rw [cell_of fT];rfl) (by rw [cell_of fC];rfl) (by rw [cell_of fL];rfl) (by rw [cell_of fP];rfl) (by rw [cell_of fP];rfl) (hz.XQ hB1)) (fun h k=>h.trans k) (fun W l o o' hl ho _ _=>HM (by omega) (by omega) l o o' hl ho) (Below.refl _ _) (fun _=>rfl)
  (fun pre W=>(Cells W (w.heap.size+3) 25 #[vI (iU gx gy pre).1,vI (iU gx gy pre).2]/\Cells W (w.heap.size+2) 25 #[vI 0,vI 0])/\(Below w.heap.size w W/\w.heap.size+8<=W.heap.size))
  (fun _ _ _=>False)
  (OwnFrom.and (OwnFrom.and (Own.from (Cells.own _ _ (fun pre:List (Int×Zn)=> #[vI (iU gx gy pre).1,vI (iU gx gy pre).2])) _) (Own.from (Cells.own _ _ (fun _=> #[vI 0,vI 0])) _)) (OwnFrom.and (ownFrom_below (Nat.le_refl _) (by omega)) (fun _ _ _ _ hs hg _=>Nat.le_trans hs hg.size)))
  (fun _ _ _ _ _ hs _ _=>hs)
  ⟨⟨b9',b8'⟩,hB1,by omega⟩
  (fun x a' W=> ∃Bx,w.heap.size+8<=Bx/\Cells W Bx 131 x.2.cells/\a'={tmps:= #[.agg #[v0,v1,v2,vI gx,vI gy,v5,v6,v7,v8,v9,v10,v11,v12,v13,v14,v15,v16,v17], .int .u32 c,vI lv, .agg #[vI px,vI py],ptr w.heap.size,undef,undef,ptr (w.heap.size+1),ptr (w.heap.size+2),ptr (w.heap.size+3),undef,ptr Bx, .pointer (some ⟨w.heap.size,3,none⟩), .agg #[vI gx,vI gy], .agg #[v0,v1,v2,vI gx,vI gy,v5,v6,v7,v8,v9,v10,v11,v12,v13,v14,v15,v16,v17], .int .u32 c,vI lv, .agg #[vI px,vI py], .func (.func 241) #[] #[ptr W0.heap.size,ptr (W0.heap.size+3),ptr (W0.heap.size+2),ptr (W0.heap.size+1)],vI x.1, .agg x.2.cells,undef,undef,undef,undef,undef,undef,undef,undef,undef,undef,undef,undef,undef,undef,undef],defers:=[]}) ?ownx ?assign ?body ?done ?stop
 case ownx=>
  intro x a' _ W W' row hs hg hr;obtain⟨Bx,k1,k2,k3⟩:=hs;exact⟨Bx,k1,Cells.own Bx 131 (fun _:Unit=>x.2.cells) () W W' row k2 hg (fun r e=>(hr r e).2),k3⟩
 case assign=>
  intro l pre x W K hi hK;simp (maxSteps:=1000000)only [List.zip_toArray,List.zip_cons_cons,List.zip_nil_right,List.foldl_toArray',List.foldl_toArray,List.foldl_cons,List.foldl_nil,List.setIfInBounds_toArray,List.set_cons_zero,List.set_cons_succ];obtain⟨⟨i1,i2⟩,i3,i4⟩:=hi;refine Ee F n l _ _ _ _ _ _ _ _ _ _ _ _ _ _ _ _ _ _ _ _ _ _ _ _ _ _ _ _ _ _ _ _ _ _ _ _ W x ?_;exact hK _ _ ((KeepsOthers.alloc _ _).from _) ((DI.refl _ _ _).alloc (by omega) (by omega) _) ⟨⟨i1.alloc _,i2.alloc _⟩,i3.alloc (by omega) _,by simp;omega⟩ ⟨W.heap.size,i4,World.alloc_heap_new W _,rfl⟩
 case body=>
  rintro l pre x a' W hl _ ⟨⟨i1,i2⟩,i3,i4⟩ ⟨Bx,k1,k2,rfl⟩ hlt;refine RK F n l _ _ _ _ _ _ _ _ _ _ _ _ _ _ _ _ _ _ _ _ _ _ _ _ _ _ _ _ _ _ _ _ _ _ _ (w.heap.size+3) Bx _ _ x.2 W k2 i1 ?_;intro a;have e: ∀k,k≠w.heap.size+3->((W.setCell ⟨w.heap.size+3,0,none⟩ (vI (wrap64 ((iU gx gy pre).1+x.2.hx)))).setCell ⟨w.heap.size+3,1,none⟩ (vI (wrap64 ((iU gx gy pre).2+x.2.hy)))).heap[k]?=W.heap[k]?:=fun k hk=>(rH hk).trans (rH hk)
  have hb: ∀n₀,n₀<=w.heap.size->Below n₀ W ((W.setCell ⟨w.heap.size+3,0,none⟩ (vI (wrap64 ((iU gx gy pre).1+x.2.hx)))).setCell ⟨w.heap.size+3,1,none⟩ (vI (wrap64 ((iU gx gy pre).2+x.2.hy)))):=fun n₀ hn=>((Below.refl n₀ W).setCell (by show n₀<=w.heap.size+3;omega) _).setCell (by show n₀<=w.heap.size+3;omega) _
  have hko:KeepsOthers W ((W.setCell ⟨w.heap.size+3,0,none⟩ (vI (wrap64 ((iU gx gy pre).1+x.2.hx)))).setCell ⟨w.heap.size+3,1,none⟩ (vI (wrap64 ((iU gx gy pre).2+x.2.hy)))):=(KeepsOthers.setCell _ _ _).trans (KeepsOthers.setCell _ _ _);refine⟨hko.from _,⟨hb _ (Nat.le_refl _),fun k q1 q2=>e k (by omega)⟩,⟨?_,i2.same (e _ (by omega))⟩,i3.trans (hb _ (Nat.le_refl _)),Nat.le_trans i4 hko.size⟩;rw [KL]
  exact(i1.set (o:=0) _).set (o:=1) _
 case done=>
  rintro D ys W hD rfl ⟨⟨i1,i2⟩,i3,i4⟩ hK;have d0:=i1.cell 0;have d1:=i1.cell 1;simp only [List.getElem?_toArray,List.getElem?_cons_zero,List.getElem?_cons_succ]at d0 d1
  gi_wp2_with (gi_at_call 202;refine(hlim _ _ _).mono ?_)
  rintro e w' ⟨rfl,hb⟩;have k8:Cells w' (w.heap.size+2) 25 #[vI 0,vI 0]:=i2.same (hb.block _ (by omega));have q0:w'.cell? ⟨w.heap.size+2,0,none⟩=some (vI 0):=k8.cell 0;have q1:w'.cell? ⟨w.heap.size+2,1,none⟩=some (vI 0):=k8.cell 1;have r0:=k8.frozen 0 _ rfl;have r1:=k8.frozen 1 _ rfl;have k8s: ∀v,Cells (w'.setCell ⟨w.heap.size+2,0,none⟩ v) (w.heap.size+2) 25 #[v,vI 0]:=fun v=>k8.set (o:=0) v
  have t1: ∀v,(w'.setCell ⟨w.heap.size+2,0,none⟩ v).cell? ⟨w.heap.size+2,1,none⟩=some (vI 0):=fun v=>(k8s v).cell 1
  have t2: ∀v,(w'.setCell ⟨w.heap.size+2,0,none⟩ v).frozen? ⟨w.heap.size+2,1,none⟩=false:=fun v=>(k8s v).frozen 1 _ rfl
  have hK2:w'.heap[D]?=some (.deferred (some [])):=(hb.block D (Array.getElem?_eq_some_iff.1 hK).1).trans hK;clear i1 i2 d0 d1 hz fT fC fL fP b9' b8' hlim
  gi_wp2
  have hfin:=(k8s (vI (lim (iU gx gy (iT (act c lv px py) zs zs.length)).1))).set (o:=1) (vI (lim (iU gx gy (iT (act c lv px py) zs zs.length)).2));have hko:KeepsOthers w' ((w'.setCell ⟨w.heap.size+2,0,none⟩ (vI (lim (iU gx gy (iT (act c lv px py) zs zs.length)).1))).setCell ⟨w.heap.size+2,1,none⟩ (vI (lim (iU gx gy (iT (act c lv px py) zs zs.length)).2))):=(KeepsOthers.setCell _ _ _).trans (KeepsOthers.setCell _ _ _)
  have hbw:Below w.heap.size w ((w'.setCell ⟨w.heap.size+2,0,none⟩ (vI (lim (iU gx gy (iT (act c lv px py) zs zs.length)).1))).setCell ⟨w.heap.size+2,1,none⟩ (vI (lim (iU gx gy (iT (act c lv px py) zs zs.length)).2))):=
   ((i3.trans (hb.mono (by omega))).setCell (by show w.heap.size<=w.heap.size+2;omega) _).setCell (by show w.heap.size<=w.heap.size+2;omega) _
  have hK3:=hko.same D _ hK2 rfl;refine⟨by simp, .inl ⟨_,_,rfl,run_takeDeferred hK3,?_⟩⟩;have hg:=grownBy_putObj' ((w'.setCell ⟨w.heap.size+2,0,none⟩ (vI (lim (iU gx gy (iT (act c lv px py) zs zs.length)).1))).setCell ⟨w.heap.size+2,1,none⟩ (vI (lim (iU gx gy (iT (act c lv px py) zs zs.length)).2))) D (.deferred none);have hc0:=cell_kept (hfin.cell 0) hg (fun r e=>by cases e;exact⟨_,hK3,rfl⟩);have hc1:=cell_kept (hfin.cell 1) hg (fun r e=>by cases e;exact⟨_,hK3,rfl⟩)
  refine⟨.agg #[vI (lim (iU gx gy (iT (act c lv px py) zs zs.length)).1),vI (lim (iU gx gy (iT (act c lv px py) zs zs.length)).2)],?_,rfl,hbw.trans (belowK_b (w:=w) (Nat.le_refl _) _ D _ _ (by omega) hK3 rfl rfl)⟩;rw [show w.heap.size+1+1=w.heap.size+2 from rfl];generalize (((w'.setCell ⟨w.heap.size+2,0,none⟩ (vI (lim (iU gx gy (iT (act c lv px py) zs zs.length)).1))).setCell ⟨w.heap.size+2,1,none⟩ (vI (lim (iU gx gy (iT (act c lv px py) zs zs.length)).2))).putObj D (.deferred none))=Wf at hc0 hc1⊢
  simp [results,Tryz.f135,go_sem,hc0,hc1]
 case stop=>
  rintro D c pre W _ _ h _;exact h.elim
end Go.Proofs.Fi
namespace Go.Proofs.Fi
open Go Go.Sx Go.Proofs Go.RowKit Go.Shelf
variable [bW]
attribute [local go_sem] Oper.semAt_some
def FZ (x:Int):Int:=if x< -1024 then-1024 else if 1024<x then 1024 else x
set_option maxRecDepth 100000 in
set_option maxHeartbeats 2000000 in
theorem VU (F:Fence) (n:Nat) (h202:F.fn 202) (hro:F.round=none) (x y:Int) (W:World):
 CallsIn F n Tryz.prog 202 #[.agg #[vI x,vI y],vI 1024] W fun e W'=>e= .returned (.agg #[vI (FZ x),vI (FZ y)])/\Below W.heap.size W W':=by
 refine callsIn_of_wp Tryz.func202 rfl h202 ?_ hro;simp only [Tryz.ntmps202,List.size_toArray,List.length_cons,List.length_nil,Nat.reduceAdd,Nat.reduceSub,Array.replicate_succ,Array.replicate_zero,List.push_toArray,List.append_toArray,List.nil_append,List.cons_append]
 gi_wp2
 all_goals
  have hB: ∀o o',Below W.heap.size W ((W.alloc o).alloc o'):=fun o o'=>((Below.refl _ W).alloc (Nat.le_refl _) _).alloc (by simp) _
  refine⟨rfl, .agg #[vI (FZ x),vI (FZ y)],?_,rfl,hB _ _⟩;simp only [FZ]
  repeat' split
  all_goals first|omega|skip
  all_goals simp [results,Tryz.f202,go_sem]
  all_goals first|omega|skip
def QE :SV->Bool
 | .int .i64 _=>true
 | .sy .i64 _ _ _=>true
 |_=>false
def OY :List SV->Option SV
 |[.agg [.s a0, .s a1, .s a2, .s (.int .i64 x), .s (.int .i64 y), .s a5, .s a6, .s a7, .s a8, .s a9, .s a10, .s a11, .s .aq, .s a13, .s a14, .s a15, .s a16, .s a17], .int .u32 c, .int .i64 lv, .agg [.s p, .s q]]=>match QE p&&QE q with
  |true=>some (.agg [.s (.int .i64 (FZ x)), .s (.int .i64 (FZ y))])
  |false=>none
 |_=>none
theorem Vu {cs:Array Value} (h:cs.size=18): ∃v0 v1 v2 v3 v4 v5 v6 v7 v8 v9 v10 v11 v12 v13 v14 v15 v16 v17,cs= #[v0,v1,v2,v3,v4,v5,v6,v7,v8,v9,v10,v11,v12,v13,v14,v15,v16,v17]:=by
 obtain⟨l⟩:=cs;simp at h
 match l,h with
 |[v0,v1,v2,v3,v4,v5,v6,v7,v8,v9,v10,v11,v12,v13,v14,v15,v16,v17],_=>exact⟨_,_,_,_,_,_,_,_,_,_,_,_,_,_,_,_,_,_,rfl⟩
theorem CT (R:RO) (x y:Int):Rel R Own.empty (.agg [.s (.int .i64 x), .s (.int .i64 y)]) (.agg #[vI x,vI y]):=by
 refine .agg _ _ _ rfl fun k sv hk=> ?_
 match k,hk with
 |0,hk=>cases hk;exact .int _ _ _
 |1,hk=>cases hk;exact .int _ _ _
theorem Dm {R:RO} {x y:Int} {v:Value} (h:Rel R Own.empty (.agg [.s (.int .i64 x), .s (.int .i64 y)]) v):v= .agg #[vI x,vI y]:=by
 obtain⟨cs,rfl,hs,hh⟩:=cU h;obtain⟨l⟩:=cs;have hs:l.length=2:=hs
 match l,hs with
 |[a,b],_=>
  have h0:a=vI x:=aK (hh 0 (.int .i64 x) rfl);have h1:b=vI y:=aK (hh 1 (.int .i64 y) rfl);rw [h0,h1]
theorem Is {R:RO} {o:Go.Sx.Own} {p:SV} {v:Value} (hp:QE p=true) (h:Rel R o p v): ∃n,v=vI n:=by
 unfold QE at hp;split at hp
 . exact⟨_,aK h⟩
 . cases h;exact⟨_,rfl⟩
 . cases hp
theorem QB {R:RO} {p q:SV} {v:Value} (hp:QE p=true) (hq:QE q=true) (h:Rel R Own.empty (.agg [.s p, .s q]) v): ∃x y,v= .agg #[vI x,vI y]:=by
 obtain⟨cs,rfl,hs,hh⟩:=cU h;obtain⟨l⟩:=cs;have hs:l.length=2:=hs
 match l,hs with
 |[a,b],_=>
  obtain⟨x,h0⟩:=Is hp (show Rel R Own.empty p a from hh 0 p rfl);obtain⟨y,h1⟩:=Is hq (show Rel R Own.empty q b from hh 1 q rfl);exact⟨x,y,by rw [h0,h1]⟩
theorem EC {w:World} {b o:Nat} {v:Value} (h:w.cell? ⟨b,o,none⟩=some v):b<w.heap.size:=by
 by_cases hb:b<w.heap.size
 . exact hb
 . have e:w.heap[b]?=none:=Y2 (by omega);simp [World.cell?,e]at h
set_option maxHeartbeats 2000000 in
theorem IH :cS Tryz.prog 135 fun args=>(OY args).map fun r=>(True,r):=by
 refine⟨⟨Tryz.f135,Tryz.func135,by kernel_rfl,by kernel_rfl⟩,fun args p r hc hp R w vals hR hrel=> ?_⟩;unfold OY at hc;split at hc
 case h_2=>cases hc
 rename_i a0 a1 a2 x y a5 a6 a7 a8 a9 a10 a11 a13 a14 a15 a16 a17 c lv sp sq;split at hc
 case h_2=>cases hc
 rename_i hpq;simp only [Bool.and_eq_true]at hpq;simp only [Option.map_some,Option.some.injEq,Prod.mk.injEq]at hc;obtain⟨rfl,rfl⟩:=hc;obtain⟨l⟩:=vals
 match l,hrel with
 |[u0,u1,u2,u3],⟨h0,h1,h2,h3,_⟩=>
  have e1:u1= .int .u32 c:=aK h1;have e2:u2=vI lv:=aK h2;obtain⟨px,py,e3⟩:=QB hpq.1 hpq.2 h3;subst e1;subst e2;subst e3;obtain⟨cs,rfl,hs,hh⟩:=cU h0;obtain⟨v0,v1,v2,v3,v4,v5,v6,v7,v8,v9,v10,v11,v12,v13,v14,v15,v16,v17,rfl⟩:=Vu (hs.trans (by simp [aa,ar.size]));have e3:v3=vI x:=aK (hh 3 (.int .i64 x) rfl);have e4:v4=vI y:=aK (hh 4 (.int .i64 y) rfl);have WX:v12= .slice none 0 0:=by
   have h12:Rel R Own.empty .aq v12:=hh 12 .aq rfl;cases h12;rfl
  subst e3;subst e4;subst WX;refine callsIn_wide.1 ((QT Fence.wide 4 trivial trivial trivial trivial trivial rfl (Nat.le_refl _) v0 v1 v2 v5 v6 v7 v8 v9 v10 v11 _ v13 v14 v15 v16 v17 x y [] (by simp) c lv px py FZ (fun x y W=>VU Fence.wide 3 trivial rfl x y W) w (.inl ⟨rfl,none,0,rfl⟩)).mono ?_);rintro e W' ⟨rfl,hB⟩;refine⟨_,R,rfl,?_, .refl _,fun b o v hv=>(hR b o v hv).of_heap (hB.block b (EC (hR _ _ _ hv).1)),fun _ _ _=>rfl,hB⟩
  exact CT _ _ _
 |[],h=>exact h.elim
 |[_],h=>exact h.2.elim
 |[_,_],h=>exact h.2.2.elim
 |[_,_,_],h=>exact h.2.2.2.elim
 |_::_::_::_::_::_,h=>exact h.2.2.2.2.elim
end Go.Proofs.Fi
namespace Go.Proofs.Top
open Go Go.Sx Go.Proofs Go.RowKit
variable [bW]
noncomputable def IT (f:Nat):Option Func:=match Tryz.prog.funcs[f]? with
 |some fn=>match fn.body with
  |some _=>some fn
  |none=>none
 |none=>none
def DT (f:Nat):Option (List SV->Option SV):=match Nat.beq f 135 with
 |true=>some Fi.OY
 |false=>none
noncomputable def XT :DX:=⟨Tryz.prog,IT,DT,[]⟩
def Sn (fn:Func):Bool:=match fn.body with
 |some _=> !(fn.name== "runtime.NumGoroutine")
 |none=>true
theorem names :Tryz.prog.funcs.toList.all Sn=true:=by kernel_rfl
theorem hm :Tryz.prog.follows .mixedOrders=true:=by kernel_rfl
theorem okT :An XT:=by
 refine⟨fun f fn h=> ?_,fun f d h=> ?_,yf.nil⟩
 . change IT f=some fn at h
   unfold IT at h;split at h
   case h_2=>cases h
   rename_i fn' hf;split at h
   case h_2=>cases h
   rename_i b hb;simp only [J3]at h;subst h;refine⟨hf,by rw [hb];simp [mB,hb],?_⟩;have hmem:fn'∈Tryz.prog.funcs.toList:=by
    have:=Array.mem_of_getElem? hf;simpa using this
   have:=Js.1 names fn' hmem;simpa [Sn,hb]using this
 . change DT f=some d at h
   unfold DT at h;split at h
   case h_2=>cases h
   rename_i e;simp only [J3]at h;subst h;rw [Jd e];exact Fi.IH
end Go.Proofs.Top
