import Derived.Test.YtpjiopgakifhaaaGreatRA
import Derived.Test.YtpjiopgakifhaaaGreatRG
import Derived.RangeFuncNested
import Derived.RangeFuncBound
import Derived.RangeFuncCalls
import Derived.RangeFuncLeaves
import Derived.RangeFuncBox
import Derived.Shelf.Abstract
import Derived.Shelf.RegionOpen
import Derived.WalkKit
import Derived.OwnWalkIn
import Derived.TacticsInMore
import Derived.LoopNIn
import Derived.LoopIn
import Derived.Maps.AppendAt
import Derived.Test.YtpjiopgakifhaaaGreatProg
import Derived.KernelRfl
set_option linter.unusedSectionVars false
set_option linter.unusedSimpArgs false
set_option linter.unusedVariables false
set_option maxRecDepth 100000
namespace Go.Proofs.Fi
open Go Go.Proofs Go.RowKit Go.Shelf Tryz
attribute [local go_sem] Oper.semAt_some
abbrev ptr(b:Nat):Value:=.pointer (some ⟨b,0,none⟩)
abbrev vI(n:Int):Value:=.int .i64 n
def boxes(w:World)(b:Array Value)(c d e h:Int):World:=(((w.alloc (.cells b 37)).alloc (.cells #[.int .u32 c] 41)).alloc (.cells #[vI d] 3)).alloc (.cells #[vI e,vI h] 25)
set_option maxRecDepth 100000 in
set_option maxHeartbeats 2000000 in
theorem acting_in(F:Fence)(n:Nat)(h24:F.fn 204)(hro:F.round=none)(tc:Array Value)(c lv px py:Int)(w:World):
 CallsIn F n prog 204 #[.agg tc,.int .u32 c,vI lv,.agg #[vI px,vI py]] w λe w'=>e=.returned (.func (.func 241) #[] #[ptr w.heap.size,ptr (w.heap.size+3),ptr (w.heap.size+2),ptr (w.heap.size+1)])/\w'=boxes w tc c lv px py:=by
 refine callsIn_of_wp func204 rfl h24 ?_ hro;simp only[ntmps204,List.size_toArray,List.length_cons,List.length_nil,Nat.reduceAdd,Nat.reduceSub,Array.replicate_succ,Array.replicate_zero,List.push_toArray,List.append_toArray,List.nil_append,List.cons_append]
 gi_wp2
 go_ret
 exact⟨rfl,rfl⟩
def enB(c k:Int):Bool:=k== -1||(decide (0<=k/\k<=31)&&bits .and .u32 (c/2^k.toNat) 1==1)
set_option maxRecDepth 100000 in
set_option maxHeartbeats 2000000 in
theorem YF(F:Fence)(n:Nat)(h27:F.fn 242)(hro:F.round=none)(c k:Int)(w:World):
 CallsIn F n prog 242 #[.int .u32 c,vI k] w λe w'=>e=.returned (.bool (enB c k))/\w'=w:=by
 refine callsIn_of_wp func242 rfl h27 ?_ hro;simp only[ntmps242,List.size_toArray,List.length_cons,List.length_nil,Nat.reduceAdd,Nat.reduceSub,Array.replicate_succ,Array.replicate_zero,List.push_toArray,List.append_toArray,List.nil_append,List.cons_append]
 gi_wp2
 . rename_i h1
   go_ret
   exact⟨by simp[enB,h1],rfl⟩
 . rename_i h1 h2 h3
   go_ret
   exact⟨by simp[enB,h2,h3],rfl⟩
 . rename_i h1 h2 h3
   go_ret
   exact⟨by simp[enB,h2,show¬k<=31 by omega],rfl⟩
 . rename_i h1 h2
   go_ret
   exact⟨by simp[enB,show¬0<=k by omega],rfl⟩
structure Zn where
 name : List UInt8
 level : Int
 lox : Int
 Zm : Int
 Ym : Int
 XC : Int
 hx : Int
 hy : Int
 Pw : Int
 deriving DecidableEq
instance : Inhabited Zn := ⟨⟨[], 0, 0, 0, 0, 0, 0, 0, 0⟩⟩
def Zn.cells(z:Zn):Array Value:= #[.string ⟨z.name.toArray⟩,vI z.level,vI z.lox,vI z.Zm,vI z.Ym,vI z.XC,vI z.hx,vI z.hy,vI z.Pw]
def act(c e b d:Int)(z:Zn):Bool:=decide (z.lox<b)&&decide (b<z.Ym)&&decide (z.Zm<d)&&decide (d<z.XC)&&z.level==e&&enB c z.Pw
theorem M7{c e b d:Int}{z:Zn}:act c e b d z=true↔z.lox<b/\b<z.Ym/\z.Zm<d/\d<z.XC/\z.level=e/\enB c z.Pw=true:=by
 simp[act,and_assoc]
theorem hZ{W:World}{a:Addr}{v:Value}(o:Obj)(h:W.cell? a=some v):(W.alloc o).cell? a=some v:=cell_kept h (World.grownBy_alloc W o none) (λr e=>by cases e)
def iT(p:Zn->Bool)(b:List Zn):Nat->List (Int×Zn)
 |0=>[]
 |k+1=>if p (b.getD k default)then iT p b k++[((k:Int),b.getD k default)]else iT p b k
theorem DV(p:Zn->Bool)(b:List Zn):∀k,(iT p b k).length<=k
 |0=>J1 _
 |k+1=>by
  have:=DV p b k;simp only[iT];split<;>simp<;>omega
def DI(c B:Nat)(W b:World):Prop:=Below c W b/\∀k,B<=k->k<B+4->b.heap[k]?=W.heap[k]?
theorem DI.refl(b B:Nat)(W:World):DI b B W W:=⟨Below.refl _ _,λ_ _ _=>rfl⟩
theorem DI.trans{d B:Nat}{a b c:World}(h:DI d B a b)(k:DI d B b c):DI d B a c:=⟨h.1.trans k.1,λi e j=>(k.2 i e j).trans (h.2 i e j)⟩
theorem DI.alloc{c B:Nat}{W b:World}(h:DI c B W b)(d:c<=b.heap.size)(j:B+4<=b.heap.size)(o:Obj):DI c B W (b.alloc o):=
 ⟨h.1.alloc d o,λk e i=>((World.grownBy_alloc b o none).block k (by omega) (by simp)).trans (h.2 k e i)⟩
theorem DI.cell{i B:Nat}{W c:World}(h:DI i B W c){b o:Nat}(d:b<i\/(B<=b/\b<B+4)):c.cell? ⟨b,o,none⟩=W.cell? ⟨b,o,none⟩:=by
 have e:c.heap[b]?=W.heap[b]?:=by
  rcases d with d|⟨j,k⟩
  . exact h.1.block b d
  . exact h.2 b j k
 simp only[World.cell?,e]
set_option maxRecDepth 100000 in
set_option maxHeartbeats 4000000 in
theorem Ra(F:Fence)(n:Nat)(h26:F.fn 241)(h27:F.fn 242)(hro:F.round=none)(hn:2<=n)(l B n₀ b off cap:Nat)(zs:List Zn)(hreach:zs.length<=9223372036854775807)(c lv px py:Int)(hb:b<n₀)(J Jx:List (Int×Zn)->World->Prop)(W:World)(hJ:AbidesFrom W.heap.size J)
 (hY:∀pre x W1,J pre W1->pre.length<zs.length->YieldAt F (n-1) prog l #[vI x.1,.agg x.2.cells] W1 λe W'=>
  (e=.returned (.bool true)/\J (pre++[x]) W'/\DI n₀ B W1 W')\/(e=.returned (.bool false)/\Jx (pre++[x]) W'))
 (hsz:n₀<=W.heap.size/\B+4<=W.heap.size)
 (hT:W.cell? ⟨B,12,none⟩=some (.slice (some ⟨b,off,none⟩) zs.length cap)) (hC:W.cell? ⟨B+1,0,none⟩=some (.int .u32 c)) (hL:W.cell? ⟨B+2,0,none⟩=some (vI lv)) (hP:W.cell? ⟨B+3,0,none⟩=some (vI px)) (hQ:W.cell? ⟨B+3,1,none⟩=some (vI py))
 (hz:∀j,j<zs.length->∀i,i<9->W.cell? ⟨b,off+j*9+i,none⟩=some ((zs.getD j default).cells.getD i undef)) (h0:J [] W):
 CallsIn F n prog 241 (#[.func (.yield l) #[] #[]]++ #[ptr B,ptr (B+3),ptr (B+2),ptr (B+1)]) W λe W'=>(∃v,e=.returned v)/\
  ((∃xs,xs=iT (act c lv px py) zs zs.length/\J xs W')\/(∃pre,True/\Jx pre W')):=by
 refine callsIn_of_wp func241 rfl h26 ?_ hro;simp only[ntmps241,List.size_toArray,List.length_cons,List.length_nil,Nat.reduceAdd,Nat.reduceSub,Array.replicate_succ,Array.replicate_zero,List.push_toArray,List.append_toArray,List.nil_append,List.cons_append]
 gi_wp2
 gi_loopw [12] (λi wr=>∃k:Nat,k<=zs.length/\i=vI k/\J (iT (act c lv px py) zs k) wr/\DI n₀ B W wr/\W.heap.size<=wr.heap.size)
  (λi _=>zs.length-(intOf i).toNat)
 case atStart=>exact⟨0,Nat.zero_le _,rfl,h0,DI.refl _ _ _,Nat.le_refl _⟩
 case round=>
  obtain⟨k,hk,rfl,hJs,hnx,hsz2⟩:=hrel
  by_cases hlt:k<zs.length
  . have hc:∀i,i<9->wr.cell? ⟨b,off+k*9+i,none⟩=some ((zs.getD k default).cells.getD i undef):=λi hi=>(hnx.cell (.inl hb)).trans (hz k hlt i hi)
    have c0:wr.cell? ⟨b,off+k*9,none⟩=some (.string ⟨(zs.getD k default).name.toArray⟩):=hc 0 (by omega);have c1:wr.cell? ⟨b,off+k*9+1,none⟩=some (vI (zs.getD k default).level):=hc 1 (by omega);have c2:wr.cell? ⟨b,off+k*9+2,none⟩=some (vI (zs.getD k default).lox):=hc 2 (by omega);have c3:wr.cell? ⟨b,off+k*9+3,none⟩=some (vI (zs.getD k default).Zm):=hc 3 (by omega);have c4:wr.cell? ⟨b,off+k*9+4,none⟩=some (vI (zs.getD k default).Ym):=hc 4 (by omega)
    have c5:wr.cell? ⟨b,off+k*9+5,none⟩=some (vI (zs.getD k default).XC):=hc 5 (by omega);have c6:wr.cell? ⟨b,off+k*9+6,none⟩=some (vI (zs.getD k default).hx):=hc 6 (by omega);have c7:wr.cell? ⟨b,off+k*9+7,none⟩=some (vI (zs.getD k default).hy):=hc 7 (by omega);have c8:wr.cell? ⟨b,off+k*9+8,none⟩=some (vI (zs.getD k default).Pw):=hc 8 (by omega);clear hc;have h1n:1<=n:=by omega
    obtain⟨z,ez⟩:∃z,zs.getD k default=z:=⟨_,rfl⟩;rw[ez]at c0 c1 c2 c3 c4 c5 c6 c7 c8;have hC':=(hnx.cell (b:=B+1) (o:=0) (.inr (by omega))).trans hC;have hL':=(hnx.cell (b:=B+2) (o:=0) (.inr (by omega))).trans hL;have hP':=(hnx.cell (b:=B+3) (o:=0) (.inr (by omega))).trans hP;have hQ':=(hnx.cell (b:=B+3) (o:=1) (.inr (by omega))).trans hQ;clear hz hT hC hL hP hQ;have hC2:∀o,(wr.alloc o).cell? ⟨B+1,0,none⟩=some (.int .u32 c):=λo=>hZ _ hC'
    have hL2:∀o,(wr.alloc o).cell? ⟨B+2,0,none⟩=some (vI lv):=λo=>hZ _ hL'
    have hP2:∀o,(wr.alloc o).cell? ⟨B+3,0,none⟩=some (vI px):=λo=>hZ _ hP'
    have hQ2:∀o,(wr.alloc o).cell? ⟨B+3,1,none⟩=some (vI py):=λo=>hZ _ hQ'
    have grow:∀o:Obj,J (iT (act c lv px py) zs k) (wr.alloc o):=λo=>hJ _ _ _ none hJs (World.grownBy_alloc wr o none) (λr e=>by cases e)
    have kp:∀o,DI n₀ B W (wr.alloc o):=λo=>hnx.alloc (by omega) (by omega) o
    have hw:wrap64 ((k:Int)+1)=((k+1:Nat):Int):=by
     simp only[wrap64];omega
    have miss: ¬act c lv px py z=true->iT (act c lv px py) zs (k+1)=iT (act c lv px py) zs k:=λh=>by
     simp only[iT,ez];rw[if_neg h]
    have hit:act c lv px py z=true->iT (act c lv px py) zs (k+1)=iT (act c lv px py) zs k++[((k:Int),z)]:=λh=>by
     simp only[iT,ez];rw[if_pos h]
    have hlen:=DV (act c lv px py) zs k
    gi_wp2_with (gi_at_call 242;refine(YF F (n-1) h27 hro _ _ _).mono ?_;rintro e w' ⟨rfl,rfl⟩)
    all_goals try (refine⟨λ_ h=>(by cases h),?_⟩;gi_wp2)
    case isTrue=>
     have h1:z.lox<px:=by assumption
     have h2:px<z.Ym:=by assumption
     have h3:z.Zm<py:=by assumption
     have h4:py<z.XC:=by assumption
     have h5:z.level=lv:=by assumption
     have h6:enB c z.Pw=true:=by assumption
     have ha:=M7.2 ⟨h1,h2,h3,h4,h5,h6⟩;obtain⟨fn,tmps,assign,body,hy,hR⟩:=hY _ ((k:Int),z) _ (grow (Obj.cells z.cells 131)) (by omega);simp only[Zn.cells]at hy hR;rw[h5]at hy hR;simp only[vI]at hy hR;rw[hy]
     gi_wp2
     refine hR.mono ?_;rintro e W3 (⟨rfl,hJ3,hk3⟩|⟨rfl,hJx3⟩)
     . gi_wp2
       go_roundw
       case rel=>
        refine⟨k+1,by omega,by simp,by rw[hit ha];exact hJ3,(kp _).trans hk3,?_⟩;have:=hk3.1.size;simp at this;omega
       case measure=>simp[intOf];omega
     . gi_wp2
       refine bodyPost_ret (results_none rfl _ _ _) rfl ?_;exact⟨⟨_,rfl⟩,.inr ⟨_,trivial,hJx3⟩⟩
    all_goals
     have hm: ¬act c lv px py z=true:=by
      rw[M7];rintro⟨a1,a2,a3,a4,a5,a6⟩
      first|omega|contradiction
     refine⟨⟨k+1,by omega,by simp,by rw[miss hm];exact grow _,kp _,by simp;omega⟩,by simp[intOf];omega⟩
  . obtain rfl:k=zs.length:=by omega
    gi_wp2
    go_end0
    exact⟨⟨_,rfl⟩,.inl ⟨_,rfl,hJs⟩⟩
attribute [irreducible] act enB
set_option maxRecDepth 100000 in
set_option maxHeartbeats 2000000 in
theorem P5(F:Fence)(n:Nat)(h26:F.fn 241)(hro:F.round=none)(l B:Nat)(ad:Option Addr)(cap:Nat)(J:List (Int×Zn)->World->Prop)(W:World)
 (hT:W.cell? ⟨B,12,none⟩=some (.slice ad 0 cap)) (h0:J [] W):
 CallsIn F n prog 241 (#[.func (.yield l) #[] #[]]++ #[ptr B,ptr (B+3),ptr (B+2),ptr (B+1)]) W λe W'=>(∃v,e=.returned v)/\J [] W':=by
 refine callsIn_of_wp func241 rfl h26 ?_ hro;simp only[ntmps241,List.size_toArray,List.length_cons,List.length_nil,Nat.reduceAdd,Nat.reduceSub,Array.replicate_succ,Array.replicate_zero,List.push_toArray,List.append_toArray,List.nil_append,List.cons_append]
 gi_wp2
 gi_loopw [12] (λi wr=>i=vI 0/\J [] wr) (λ_ _=>0)
 case atStart=>exact⟨rfl,h0⟩
 case round=>
  obtain⟨rfl,hJs⟩:=hrel
  gi_wp2
  go_end0
  exact⟨⟨_,rfl⟩,hJs⟩
def FG(e:Nat)(W:World)(d:Value)(c:List Zn):Prop:=
 (c=[]/\∃h cap,d=.slice h 0 cap)\/∃b off cap,d=.slice (some ⟨b,off,none⟩) c.length cap/\b<e/\∀j,j<c.length->∀i,i<9->W.cell? ⟨b,off+j*9+i,none⟩=some ((c.getD j default).cells.getD i undef)
theorem FG.XQ{c:Nat}{W d:World}{m:Value}{o:List Zn}(h:FG c W m o)(k:Below c W d):FG c d m o:=by
 rcases h with h|⟨b,off,cap,e,q,r⟩
 . exact .inl h
 . exact .inr ⟨b,off,cap,e,q,λj u i w=>(k.cell (p:=⟨b,off+j*9+i,none⟩) q).trans (r j u i w)⟩
theorem HN(F:Fence)(n:Nat)(j:F.fn 241)(q:F.fn 242)(k:F.round=none)(K:2<=n)(B m:Nat)(E:Value)(i:List Zn)(d:i.length<=9223372036854775807)(c r u y:Int)(w:World)(z:m<=w.heap.size/\B+4<=w.heap.size)
 (G:w.cell? ⟨B,12,none⟩=some E) (L:w.cell? ⟨B+1,0,none⟩=some (.int .u32 c)) (M:w.cell? ⟨B+2,0,none⟩=some (vI r)) (N:w.cell? ⟨B+3,0,none⟩=some (vI u)) (O:w.cell? ⟨B+3,1,none⟩=some (vI y)) (R:FG m w E i):
 SeqStopsK F n prog 241 #[ptr B,ptr (B+3),ptr (B+2),ptr (B+1)] (λx:Int×Zn=> #[vI x.1,.agg x.2.cells]) (DI m B) (λX=>X=iT (act c r u y) i i.length) (λ_=>True) i.length w:=λl J Z W A hJ ac hY H=>by
 have hs:=A.size;have cl:∀{b o:Nat}{v:Value},b<w.heap.size->w.cell? ⟨b,o,none⟩=some v->W.cell? ⟨b,o,none⟩=some v:=λ{b o v} C h=>(A.cell (p:=⟨b,o,none⟩) C).trans h
 rcases R.XQ (A.mono z.1)with⟨rfl,ad,cap,rfl⟩|⟨b,off,cap,rfl,C,D⟩
 . exact(P5 F n j k l B ad cap J W (cl (by omega) G) H).mono λe W' ⟨he,hj⟩=>⟨he,.inl ⟨_,rfl,hj⟩⟩
 . exact Ra F n j q k K l B m b off cap i d c r u y C J Z W hJ hY ⟨by omega,by omega⟩ (cl (by omega) G) (cl (by omega) L) (cl (by omega) M) (cl (by omega) N) (cl (by omega) O) D H
theorem HM{b B:Nat}{w W:World}(i:b<=w.heap.size)(j:B+4<=w.heap.size)(l:Nat)(o c:Obj)(m:w.heap.size<=l)(h:W.heap[l]?=some o):DI b B W (W.putObj l c):=by
 have d:=grownBy_putObj' W l c;have lt:=(K3.1 h).1;refine⟨(Below.refl b W).grown d (by omega) (λk e=>by cases e;omega),λk p q=>d.block k (by omega) (λe=>by cases e;omega)⟩
theorem dQ{W:World}{k:Nat}(o:Obj)(h:k<W.heap.size):(W.alloc o).heap[k]?=W.heap[k]?:=(World.grownBy_alloc W o none).block k h (by simp)
theorem cell_of{W:World}{b o:Nat}{c:Array Value}{t:TypeId}{d:Nat×Nat}(h:W.heap[b]?=some (.cells c t d)):W.cell? ⟨b,o,none⟩=c[o]?:=by simp[World.cell?,h]
theorem D8(W:World)(b:Array Value)(c d e h:Int):(boxes W b c d e h).heap.size=W.heap.size+4/\(boxes W b c d e h).heap[W.heap.size]?=some (.cells b 37 (0,0))/\(boxes W b c d e h).heap[W.heap.size+1]?=some (.cells #[.int .u32 c] 41 (0,0))/\
 (boxes W b c d e h).heap[W.heap.size+2]?=some (.cells #[vI d] 3 (0,0))/\(boxes W b c d e h).heap[W.heap.size+3]?=some (.cells #[vI e,vI h] 25 (0,0))/\(∀k,k<W.heap.size->(boxes W b c d e h).heap[k]?=W.heap[k]?)/\Below W.heap.size W (boxes W b c d e h):=by
 have i:=World.alloc_heap_new W (.cells b 37);have j:=World.alloc_heap_new (W.alloc (.cells b 37)) (.cells #[.int .u32 c] 41);have m:=World.alloc_heap_new ((W.alloc (.cells b 37)).alloc (.cells #[.int .u32 c] 41)) (.cells #[vI d] 3);have o:=World.alloc_heap_new (((W.alloc (.cells b 37)).alloc (.cells #[.int .u32 c] 41)).alloc (.cells #[vI d] 3)) (.cells #[vI e,vI h] 25);simp only[World.size_alloc]at i j m o
 unfold boxes;refine⟨by simp,?_,?_,?_,?_,λk p=>?_,(((Below.refl _ W).alloc (J1 _) _).alloc (by simp) _).alloc (by simp;omega) _|>.alloc (by simp;omega) _⟩
 . rw[dQ _ (by simp;omega),dQ _ (by simp;omega),dQ _ (by simp)];exact i
 . rw[dQ _ (by simp),dQ _ (by simp)];exact j
 . rw[dQ _ (by simp)];exact m
 . exact o
 . rw[dQ _ (by simp;omega),dQ _ (by simp;omega),dQ _ (by simp;omega),dQ _ p]
def Cells(W:World)(B:Nat)(t:TypeId)(b:Array Value):Prop:=W.heap[B]?=some (.cells b t (0,0))
theorem Cells.lt{W:World}{B:Nat}{t:TypeId}{b:Array Value}(h:Cells W B t b):B<W.heap.size:=(K3.1 h).1
theorem Cells.cell{W:World}{B:Nat}{t:TypeId}{b:Array Value}(h:Cells W B t b)(o:Nat):W.cell? ⟨B,o,none⟩=b[o]?:=cell_of h
theorem Cells.frozen{W:World}{B:Nat}{t:TypeId}{b:Array Value}(h:Cells W B t b)(o:Nat)(v:Value)(c:b[o]?=some v):W.frozen? ⟨B,o,none⟩=false:=by
 simp[World.frozen?,show W.heap[B]?=_ from h]
theorem Cells.alloc{W:World}{B:Nat}{t:TypeId}{b:Array Value}(h:Cells W B t b)(o:Obj):Cells (W.alloc o) B t b:=(dQ o h.lt).trans h
theorem Cells.own{β:Type}(B:Nat)(t:TypeId)(f:β->Array Value):Own (λs W=>Cells W B t (f s)):=λs X Y row c h b=>
 (h.block B c.lt (λe=>by
  obtain⟨o,d,i⟩:=b B e.symm;rw[show X.heap[B]?=_ from c]at d;cases d;cases i)).trans c
theorem Cells.same{W b:World}{B:Nat}{t:TypeId}{c:Array Value}(h:Cells W B t c)(e:b.heap[B]?=W.heap[B]?):Cells b B t c:=e.trans h
theorem rH{W:World}{b o:Nat}{v:Value}{k:Nat}(h:k≠b):(W.setCell ⟨b,o,none⟩ v).heap[k]?=W.heap[k]?:=by
 simp[World.setCell,Zc,Yv h]
theorem Cells.set{W:World}{B o:Nat}{t:TypeId}{b:Array Value}(h:Cells W B t b)(v:Value):Cells (W.setCell ⟨B,o,none⟩ v) B t (b.setIfInBounds o v):=by
 unfold Cells at h⊢;simp[World.setCell,Zc,h]
def iU(c d:Int)(b:List (Int×Zn)):Int×Int:=b.foldl (λs x=>(wrap64 (s.1+x.2.hx),wrap64 (s.2+x.2.hy))) (c,d)
theorem sumH_snoc(c d:Int)(b:List (Int×Zn))(x:Int×Zn):iU c d (b++[x])=(wrap64 ((iU c d b).1+x.2.hx),wrap64 ((iU c d b).2+x.2.hy)):=by simp[iU]
set_option maxRecDepth 100000 in
set_option maxHeartbeats 4000000 in
theorem Ee (F:Fence) (n l:Nat) (Q:Exit->Act->World->Prop) (u0 u1 u2 u3 u4 u5 u6 u7 u8 u9 u10 u11 u12 u13 u14 u15 u16 u17 u18 u19 u21 u22 u23 u24 u25 u26 u27 u28 u29 u30 u31 u32 u33 u34 u35:Value) (W:World) (x:Int×Zn)
 (hQ:Q .normal {tmps:= #[u0,u1,u2,u3,u4,u5,u6,u7,u8,u9,u10,ptr W.heap.size,u12,u13,u14,u15,u16,u17,u18,u19,.agg x.2.cells,u21,u22,u23,u24,u25,u26,u27,u28,u29,u30,u31,u32,u33,u34,u35],defers:=[]} (W.alloc (.cells x.2.cells 131))):
 Code.wpIn (F.inRound l) (n-1-1) prog
  (Code.region 3
   #[{dst:=some 11,op:=Op.alloc 131,type:=0,pos:= "field.go:39",after:= #[],guard:=none},
    {dst:=none,op:=Op.store 131 (Operand.tmp 11) (Operand.tmp 20),type:=0,pos:= "field.go:39",after:= #[{on:=0,ground:=Ground.data},{on:=0,ground:=Ground.phase}],guard:=none}]
   false) Q {tmps:= #[u0,u1,u2,u3,u4,u5,u6,u7,u8,u9,u10,u11,u12,u13,u14,u15,u16,u17,u18,u19,.agg x.2.cells,u21,u22,u23,u24,u25,u26,u27,u28,u29,u30,u31,u32,u33,u34,u35],defers:=[]} W:=by
 obtain⟨xi,z⟩:=x;simp only[Zn.cells]at hQ⊢
 gi_wp2
 exact hQ
set_option maxRecDepth 100000 in
set_option maxHeartbeats 4000000 in
theorem RK (F:Fence) (n l:Nat) (Q:Exit->Act->World->Prop) (u0 u1 u2 u3 u4 u5 u6 u7 u8 u10 u12 u13 u14 u15 u16 u17 u18 u19 u20 u21 u22 u23 u24 u25 u26 u27 u28 u29 u30 u31 u32 u33 u34 u35:Value) (B9 Bx:Nat) (sx sy:Int) (z:Zn) (W:World) (hx:Cells W Bx 131 z.cells) (hs:Cells W B9 25 #[vI sx,vI sy])
 (hQ:∀a,Q .normal a ((W.setCell ⟨B9,0,none⟩ (vI (wrap64 (sx+z.hx)))).setCell ⟨B9,1,none⟩ (vI (wrap64 (sy+z.hy))))):
 Code.wpIn (F.inRound l) (n-1-1) prog
  (Code.block 1
   (Code.region 4
    #[{dst:=some 21,op:=Op.fieldAddr 25 (Operand.tmp 9) 0,type:=0,pos:= "field.go:40",after:= #[],guard:=none},
     {dst:=some 22,op:=Op.load 3 (Operand.tmp 21),type:=3,pos:= "field.go:40",after:= #[{on:=0,ground:=Ground.data}],guard:=none},
     {dst:=some 23,op:=Op.fieldAddr 131 (Operand.tmp 11) 4,type:=0,pos:= "field.go:40",after:= #[],guard:=none},
     {dst:=some 24,op:=Op.fieldAddr 25 (Operand.tmp 23) 0,type:=0,pos:= "field.go:40",after:= #[{on:=2,ground:=Ground.data}],guard:=none},
     {dst:=some 25,op:=Op.load 3 (Operand.tmp 24),type:=3,pos:= "field.go:40",after:= #[{on:=3,ground:=Ground.data}],guard:=none},
     {dst:=some 26,op:=Op.binOp BinOp.add 3 (Operand.tmp 22) (Operand.tmp 25) 3,type:=3,pos:= "field.go:40",after:= #[{on:=1,ground:=Ground.data},{on:=4,ground:=Ground.data}],guard:=none},
     {dst:=some 27,op:=Op.fieldAddr 25 (Operand.tmp 9) 1,type:=0,pos:= "field.go:40",after:= #[],guard:=none},
     {dst:=some 28,op:=Op.load 3 (Operand.tmp 27),type:=3,pos:= "field.go:40",after:= #[{on:=6,ground:=Ground.data}],guard:=none},
     {dst:=some 29,op:=Op.fieldAddr 131 (Operand.tmp 11) 4,type:=0,pos:= "field.go:40",after:= #[],guard:=none},
     {dst:=some 30,op:=Op.fieldAddr 25 (Operand.tmp 29) 1,type:=0,pos:= "field.go:40",after:= #[{on:=8,ground:=Ground.data}],guard:=none},
     {dst:=some 31,op:=Op.load 3 (Operand.tmp 30),type:=3,pos:= "field.go:40",after:= #[{on:=9,ground:=Ground.data}],guard:=none},
     {dst:=some 32,op:=Op.binOp BinOp.add 3 (Operand.tmp 28) (Operand.tmp 31) 3,type:=3,pos:= "field.go:40",after:= #[{on:=7,ground:=Ground.data},{on:=10,ground:=Ground.data}],guard:=none},
     {dst:=some 33,op:=Op.build 25 #[(0,Operand.tmp 26),(1,Operand.tmp 32)],type:=25,pos:= "field.go:40",after:= #[{on:=5,ground:=Ground.data},{on:=11,ground:=Ground.data}],guard:=none},
     {dst:=none,op:=Op.store 25 (Operand.tmp 9) (Operand.tmp 33),type:=0,pos:= "field.go:40",
      after:=
       #[{on:=12,ground:=Ground.data},{on:=0,ground:=Ground.phase},
        {on:=1,ground:=Ground.phase},{on:=2,ground:=Ground.phase},
        {on:=3,ground:=Ground.phase},{on:=4,ground:=Ground.phase},
        {on:=5,ground:=Ground.phase},{on:=6,ground:=Ground.phase},
        {on:=7,ground:=Ground.phase},{on:=8,ground:=Ground.phase},
        {on:=9,ground:=Ground.phase},{on:=10,ground:=Ground.phase},
        {on:=11,ground:=Ground.phase},{on:=12,ground:=Ground.phase}],guard:=none}]
    false)) Q {tmps:= #[u0,u1,u2,u3,u4,u5,u6,u7,u8,ptr B9,u10,ptr Bx,u12,u13,u14,u15,u16,u17,u18,u19,u20,u21,u22,u23,u24,u25,u26,u27,u28,u29,u30,u31,u32,u33,u34,u35],defers:=[]} W:=by
 have c6:W.cell? ⟨Bx,6,none⟩=some (vI z.hx):=hx.cell 6;have c7:W.cell? ⟨Bx,7,none⟩=some (vI z.hy):=hx.cell 7;have d0:W.cell? ⟨B9,0,none⟩=some (vI sx):=hs.cell 0;have d1:W.cell? ⟨B9,1,none⟩=some (vI sy):=hs.cell 1;have f0:=hs.frozen 0 _ rfl;have f1:=hs.frozen 1 _ rfl;have hs2:=hs.set (o:=0) (vI (wrap64 (sx+z.hx)));have g1:(W.setCell ⟨B9,0,none⟩ (vI (wrap64 (sx+z.hx)))).cell? ⟨B9,1,none⟩=some (vI sy):=hs2.cell 1
 have k1:=hs2.frozen 1 _ rfl;clear hx hs hs2
 gi_wp2
 exact hQ _
set_option maxRecDepth 100000 in
set_option maxHeartbeats 40000000 in
theorem QT(F:Fence)(n:Nat)(h19:F.fn 135)(h22:F.fn 202)(h24:F.fn 204)(h26:F.fn 241)(h27:F.fn 242)(hro:F.round=none)(hn:4<=n)(v0 v1 v2 v5 v6 v7 v8 v9 v10 v11 v12 v13 v14 v15 v16 v17:Value)(gx gy:Int)(zs:List Zn)(hreach:zs.length<=1000000)(c lv px py:Int)(lim:Int->Int)
 (hlim:∀(x y:Int)(W:World),CallsIn F (n-1) prog 202 #[.agg #[vI x,vI y],vI 1024] W λe W'=>e=.returned (.agg #[vI (lim x),vI (lim y)])/\Below W.heap.size W W') (w:World) (hz:FG w.heap.size w v12 zs):
 CallsIn F n prog 135 #[.agg #[v0,v1,v2,vI gx,vI gy,v5,v6,v7,v8,v9,v10,v11,v12,v13,v14,v15,v16,v17],.int .u32 c,vI lv,.agg #[vI px,vI py]] w λe W'=>
  e=.returned (.agg #[vI (lim (iU gx gy (iT (act c lv px py) zs zs.length)).1),vI (lim (iU gx gy (iT (act c lv px py) zs zs.length)).2)])/\Below w.heap.size w W':=by
 have h1:1<=n:=by omega
 refine callsIn_of_wp_marks func135 rfl h19 ?_ hro;simp only[ntmps135,List.size_toArray,List.length_cons,List.length_nil,Nat.reduceAdd,Nat.reduceSub,Array.replicate_succ,Array.replicate_zero,List.push_toArray,List.append_toArray,List.nil_append,List.cons_append]
 gi_wp2_with (gi_at_call 204;refine(acting_in F (n-1) h24 hro _ _ _ _ _ _).mono ?_;rintro e w' ⟨rfl,rfl⟩)
 obtain⟨W0,hW0⟩:∃W0,((((w.alloc (Obj.cells #[v0,v1,v2,vI gx,vI gy,v5,v6,v7,v8,v9,v10,v11,v12,v13,v14,v15,v16,v17] 37)).alloc (Obj.cells #[vI px,vI py] 25)).alloc (Obj.cells #[Value.int IntKind.i64 0,Value.int IntKind.i64 0] 25)).alloc (Obj.cells #[Value.int IntKind.i64 gx,Value.int IntKind.i64 gy] 25))=W0:=⟨_,rfl⟩;have s0:W0.heap.size=w.heap.size+4:=by rw[<-hW0];simp
 have b9:Cells W0 (w.heap.size+3) 25 #[vI gx,vI gy]:=by
  have:=World.alloc_heap_new (((w.alloc (Obj.cells #[v0,v1,v2,vI gx,vI gy,v5,v6,v7,v8,v9,v10,v11,v12,v13,v14,v15,v16,v17] 37)).alloc (Obj.cells #[vI px,vI py] 25)).alloc (Obj.cells #[Value.int IntKind.i64 0,Value.int IntKind.i64 0] 25)) (Obj.cells #[vI gx,vI gy] 25);rw[hW0]at this;simp only[World.size_alloc]at this;exact this
 have b8:Cells W0 (w.heap.size+2) 25 #[vI 0,vI 0]:=by
  have:=World.alloc_heap_new ((w.alloc (Obj.cells #[v0,v1,v2,vI gx,vI gy,v5,v6,v7,v8,v9,v10,v11,v12,v13,v14,v15,v16,v17] 37)).alloc (Obj.cells #[vI px,vI py] 25)) (Obj.cells #[vI 0,vI 0] 25);rw[<-hW0];exact(dQ _ (by simp)).trans (by simpa using this)
 have hB0:Below w.heap.size w W0:=by
  rw[<-hW0];exact((((Below.refl _ w).alloc (Nat.le_refl _) _).alloc (by simp) _).alloc (by simp;omega) _).alloc (by simp;omega) _
 rw[hW0];have bf:=D8 W0 #[v0,v1,v2,vI gx,vI gy,v5,v6,v7,v8,v9,v10,v11,v12,v13,v14,v15,v16,v17] c lv px py;have eS:w.heap.size+1+1+1+1=W0.heap.size:=by omega
 rw[eS];obtain⟨W1,hW1⟩:∃W1,boxes W0 #[v0,v1,v2,vI gx,vI gy,v5,v6,v7,v8,v9,v10,v11,v12,v13,v14,v15,v16,v17] c lv px py=W1:=⟨_,rfl⟩;rw[hW1]at bf⊢;obtain⟨s1,fT,fC,fL,fP,fO,fB⟩:=bf;have b9':Cells W1 (w.heap.size+3) 25 #[vI gx,vI gy]:=(fO _ (by omega)).trans b9;have b8':Cells W1 (w.heap.size+2) 25 #[vI 0,vI 0]:=(fO _ (by omega)).trans b8;have hB1:Below w.heap.size w W1:=hB0.trans (fB.mono (by omega));clear fO fB hB0 b9 b8 hW0 hW1 eS
 refine wpIn_rangeFunc_ownH hro h1 (gf:=241) (lb:= #[ptr W0.heap.size,ptr (W0.heap.size+3),ptr (W0.heap.size+2),ptr (W0.heap.size+1)]) rfl h26 (enters_of func241 (by kernel_rfl) rfl)
  (HN F (n-1) h26 h27 hro (by omega) W0.heap.size w.heap.size v12 zs (by omega) c lv px py W1 ⟨by omega,by omega⟩ (by rw[cell_of fT];rfl) (by rw[cell_of fC];rfl) (by rw[cell_of fL];rfl) (by rw[cell_of fP];rfl) (by rw[cell_of fP];rfl) (hz.XQ hB1)) (λh k=>h.trans k) (λW l o o' hl ho _ _=>HM (by omega) (by omega) l o o' hl ho) (Below.refl _ _) (λ_=>rfl)
  (λpre W=>(Cells W (w.heap.size+3) 25 #[vI (iU gx gy pre).1,vI (iU gx gy pre).2]/\Cells W (w.heap.size+2) 25 #[vI 0,vI 0])/\(Below w.heap.size w W/\w.heap.size+8<=W.heap.size))
  (λ_ _ _=>False)
  (OwnFrom.and (OwnFrom.and (Own.from (Cells.own _ _ (λpre:List (Int×Zn)=> #[vI (iU gx gy pre).1,vI (iU gx gy pre).2])) _) (Own.from (Cells.own _ _ (λ_=> #[vI 0,vI 0])) _)) (OwnFrom.and (ownFrom_below (Nat.le_refl _) (by omega)) (λ_ _ _ _ hs hg _=>Nat.le_trans hs hg.size)))
  (λ_ _ _ _ _ hs _ _=>hs)
  ⟨⟨b9',b8'⟩,hB1,by omega⟩
  (λx a' W=>∃Bx,w.heap.size+8<=Bx/\Cells W Bx 131 x.2.cells/\a'={tmps:= #[.agg #[v0,v1,v2,vI gx,vI gy,v5,v6,v7,v8,v9,v10,v11,v12,v13,v14,v15,v16,v17],.int .u32 c,vI lv,.agg #[vI px,vI py],ptr w.heap.size,undef,undef,ptr (w.heap.size+1),ptr (w.heap.size+2),ptr (w.heap.size+3),undef,ptr Bx,.pointer (some ⟨w.heap.size,3,none⟩),.agg #[vI gx,vI gy],.agg #[v0,v1,v2,vI gx,vI gy,v5,v6,v7,v8,v9,v10,v11,v12,v13,v14,v15,v16,v17],.int .u32 c,vI lv,.agg #[vI px,vI py],.func (.func 241) #[] #[ptr W0.heap.size,ptr (W0.heap.size+3),ptr (W0.heap.size+2),ptr (W0.heap.size+1)],vI x.1,.agg x.2.cells,undef,undef,undef,undef,undef,undef,undef,undef,undef,undef,undef,undef,undef,undef,undef],defers:=[]}) ?ownx ?assign ?body ?done ?stop
 case ownx=>
  intro x a' _ W W' row hs hg hr;obtain⟨Bx,k1,k2,k3⟩:=hs;exact⟨Bx,k1,Cells.own Bx 131 (λ_:Unit=>x.2.cells) () W W' row k2 hg (λr e=>(hr r e).2),k3⟩
 case assign=>
  intro l pre x W K hi hK;simp (maxSteps:=1000000)only[List.zip_toArray,List.zip_cons_cons,List.zip_nil_right,List.foldl_toArray',List.foldl_cons,List.foldl_nil,List.setIfInBounds_toArray,List.set_cons_zero,List.set_cons_succ];obtain⟨⟨i1,i2⟩,i3,i4⟩:=hi;refine Ee F n l _ _ _ _ _ _ _ _ _ _ _ _ _ _ _ _ _ _ _ _ _ _ _ _ _ _ _ _ _ _ _ _ _ _ _ _ W x ?_;exact hK _ _ ((KeepsOthers.alloc _ _).from _) ((DI.refl _ _ _).alloc (by omega) (by omega) _) ⟨⟨i1.alloc _,i2.alloc _⟩,i3.alloc (by omega) _,by simp;omega⟩ ⟨W.heap.size,i4,World.alloc_heap_new W _,rfl⟩
 case body=>
  rintro l pre x a' W hl _ ⟨⟨i1,i2⟩,i3,i4⟩ ⟨Bx,k1,k2,rfl⟩ hlt;refine RK F n l _ _ _ _ _ _ _ _ _ _ _ _ _ _ _ _ _ _ _ _ _ _ _ _ _ _ _ _ _ _ _ _ _ _ _ (w.heap.size+3) Bx _ _ x.2 W k2 i1 ?_;intro a;have e:∀k,k≠w.heap.size+3->((W.setCell ⟨w.heap.size+3,0,none⟩ (vI (wrap64 ((iU gx gy pre).1+x.2.hx)))).setCell ⟨w.heap.size+3,1,none⟩ (vI (wrap64 ((iU gx gy pre).2+x.2.hy)))).heap[k]?=W.heap[k]?:=λk hk=>(rH hk).trans (rH hk)
  have hb:∀n₀,n₀<=w.heap.size->Below n₀ W ((W.setCell ⟨w.heap.size+3,0,none⟩ (vI (wrap64 ((iU gx gy pre).1+x.2.hx)))).setCell ⟨w.heap.size+3,1,none⟩ (vI (wrap64 ((iU gx gy pre).2+x.2.hy)))):=λn₀ hn=>((Below.refl n₀ W).setCell (by show n₀<=w.heap.size+3;omega) _).setCell (by show n₀<=w.heap.size+3;omega) _
  have hko:KeepsOthers W ((W.setCell ⟨w.heap.size+3,0,none⟩ (vI (wrap64 ((iU gx gy pre).1+x.2.hx)))).setCell ⟨w.heap.size+3,1,none⟩ (vI (wrap64 ((iU gx gy pre).2+x.2.hy)))):=(KeepsOthers.setCell _ _ _).trans (KeepsOthers.setCell _ _ _);refine⟨hko.from _,⟨hb _ (Nat.le_refl _),λk q1 q2=>e k (by omega)⟩,⟨?_,i2.same (e _ (by omega))⟩,i3.trans (hb _ (Nat.le_refl _)),Nat.le_trans i4 hko.size⟩;rw[sumH_snoc]
  exact(i1.set (o:=0) _).set (o:=1) _
 case done=>
  rintro D ys W hD rfl ⟨⟨i1,i2⟩,i3,i4⟩ hK;have d0:=i1.cell 0;have d1:=i1.cell 1;simp only[List.getElem?_toArray,List.getElem?_cons_zero,List.getElem?_cons_succ]at d0 d1
  gi_wp2_with (gi_at_call 202;refine(hlim _ _ _).mono ?_)
  rintro e w' ⟨rfl,hb⟩;have k8:Cells w' (w.heap.size+2) 25 #[vI 0,vI 0]:=i2.same (hb.block _ (by omega));have q0:w'.cell? ⟨w.heap.size+2,0,none⟩=some (vI 0):=k8.cell 0;have q1:w'.cell? ⟨w.heap.size+2,1,none⟩=some (vI 0):=k8.cell 1;have r0:=k8.frozen 0 _ rfl;have r1:=k8.frozen 1 _ rfl;have k8s:∀v,Cells (w'.setCell ⟨w.heap.size+2,0,none⟩ v) (w.heap.size+2) 25 #[v,vI 0]:=λv=>k8.set (o:=0) v
  have t1:∀v,(w'.setCell ⟨w.heap.size+2,0,none⟩ v).cell? ⟨w.heap.size+2,1,none⟩=some (vI 0):=λv=>(k8s v).cell 1
  have t2:∀v,(w'.setCell ⟨w.heap.size+2,0,none⟩ v).frozen? ⟨w.heap.size+2,1,none⟩=false:=λv=>(k8s v).frozen 1 _ rfl
  have hK2:w'.heap[D]?=some (.deferred (some [])):=(hb.block D (Array.getElem?_eq_some_iff.1 hK).1).trans hK;clear i1 i2 d0 d1 hz fT fC fL fP b9' b8' hlim
  gi_wp2
  have hfin:=(k8s (vI (lim (iU gx gy (iT (act c lv px py) zs zs.length)).1))).set (o:=1) (vI (lim (iU gx gy (iT (act c lv px py) zs zs.length)).2));have hko:KeepsOthers w' ((w'.setCell ⟨w.heap.size+2,0,none⟩ (vI (lim (iU gx gy (iT (act c lv px py) zs zs.length)).1))).setCell ⟨w.heap.size+2,1,none⟩ (vI (lim (iU gx gy (iT (act c lv px py) zs zs.length)).2))):=(KeepsOthers.setCell _ _ _).trans (KeepsOthers.setCell _ _ _)
  have hbw:Below w.heap.size w ((w'.setCell ⟨w.heap.size+2,0,none⟩ (vI (lim (iU gx gy (iT (act c lv px py) zs zs.length)).1))).setCell ⟨w.heap.size+2,1,none⟩ (vI (lim (iU gx gy (iT (act c lv px py) zs zs.length)).2))):=
   ((i3.trans (hb.mono (by omega))).setCell (by show w.heap.size<=w.heap.size+2;omega) _).setCell (by show w.heap.size<=w.heap.size+2;omega) _
  have hK3:=hko.same D _ hK2 rfl;refine⟨by simp,.inl ⟨_,_,rfl,run_takeDeferred hK3,?_⟩⟩;have hg:=grownBy_putObj' ((w'.setCell ⟨w.heap.size+2,0,none⟩ (vI (lim (iU gx gy (iT (act c lv px py) zs zs.length)).1))).setCell ⟨w.heap.size+2,1,none⟩ (vI (lim (iU gx gy (iT (act c lv px py) zs zs.length)).2))) D (.deferred none);have hc0:=cell_kept (hfin.cell 0) hg (λr e=>by cases e;exact⟨_,hK3,rfl⟩);have hc1:=cell_kept (hfin.cell 1) hg (λr e=>by cases e;exact⟨_,hK3,rfl⟩)
  refine⟨.agg #[vI (lim (iU gx gy (iT (act c lv px py) zs zs.length)).1),vI (lim (iU gx gy (iT (act c lv px py) zs zs.length)).2)],?_,rfl,hbw.trans (belowK_b (w:=w) (Nat.le_refl _) _ D _ _ (by omega) hK3 rfl rfl)⟩;rw[show w.heap.size+1+1=w.heap.size+2 from rfl];generalize (((w'.setCell ⟨w.heap.size+2,0,none⟩ (vI (lim (iU gx gy (iT (act c lv px py) zs zs.length)).1))).setCell ⟨w.heap.size+2,1,none⟩ (vI (lim (iU gx gy (iT (act c lv px py) zs zs.length)).2))).putObj D (.deferred none))=Wf at hc0 hc1⊢
  simp[results,f135,go_sem,hc0,hc1]
 case stop=>
  rintro D c pre W _ _ h _;exact h.elim
end Go.Proofs.Fi
namespace Go.Proofs.Fi
open Go Go.Sx Go.Proofs Go.RowKit Go.Shelf Tryz
variable [bW]
attribute [local go_sem] Oper.semAt_some
def FZ(x:Int):Int:=if x< -1024 then-1024 else if 1024<x then 1024 else x
set_option maxRecDepth 100000 in
set_option maxHeartbeats 2000000 in
theorem VU(F:Fence)(n:Nat)(h202:F.fn 202)(hro:F.round=none)(x y:Int)(W:World):
 CallsIn F n prog 202 #[.agg #[vI x,vI y],vI 1024] W λe W'=>e=.returned (.agg #[vI (FZ x),vI (FZ y)])/\Below W.heap.size W W':=by
 refine callsIn_of_wp func202 rfl h202 ?_ hro;simp only[ntmps202,List.size_toArray,List.length_cons,List.length_nil,Nat.reduceAdd,Nat.reduceSub,Array.replicate_succ,Array.replicate_zero,List.push_toArray,List.append_toArray,List.nil_append,List.cons_append]
 gi_wp2
 all_goals
  have hB:∀o o',Below W.heap.size W ((W.alloc o).alloc o'):=λo o'=>((Below.refl _ W).alloc (Nat.le_refl _) _).alloc (by simp) _
  refine⟨rfl,.agg #[vI (FZ x),vI (FZ y)],?_,rfl,hB _ _⟩;simp only[FZ]
  repeat' split
  all_goals first|omega|skip
  all_goals simp[results,f202,go_sem]
  all_goals first|omega|skip
def QE:SV->Bool
 |.int .i64 _=>true
 |.sy .i64 _ _ _=>true
 |_=>false
def OY:List SV->Option SV
 |[.agg [.s a0,.s a1,.s a2,.s (.int .i64 x),.s (.int .i64 y),.s a5,.s a6,.s a7,.s a8,.s a9,.s a10,.s a11,.s .aq,.s a13,.s a14,.s a15,.s a16,.s a17],.int .u32 c,.int .i64 lv,.agg [.s p,.s q]]=>match QE p&&QE q with
  |true=>some (.agg [.s (.int .i64 (FZ x)),.s (.int .i64 (FZ y))])
  |false=>none
 |_=>none
theorem Vu{k:Array Value}(h:k.size=18):∃v0 v1 m o v4 p v6 q r u v10 v11 b c d e i j,k= #[v0,v1,m,o,v4,p,v6,q,r,u,v10,v11,b,c,d,e,i,j]:=by
 obtain⟨l⟩:=k;simp at h
 match l,h with
 |[v0,v1,m,o,v4,p,v6,q,r,u,v10,v11,b,c,d,e,i,j],_=>exact⟨_,_,_,_,_,_,_,_,_,_,_,_,_,_,_,_,_,_,rfl⟩
theorem CT(R:RO)(x y:Int):Rel R Own.empty (.agg [.s (.int .i64 x),.s (.int .i64 y)]) (.agg #[vI x,vI y]):=by
 refine .agg _ _ _ rfl λk c b=>?_
 match k,b with
 |0,b=>cases b;exact .int _ _ _
 |1,b=>cases b;exact .int _ _ _
theorem Dm{R:RO}{x y:Int}{v:Value}(h:Rel R Own.empty (.agg [.s (.int .i64 x),.s (.int .i64 y)]) v):v=.agg #[vI x,vI y]:=by
 obtain⟨e,rfl,c,d⟩:=cU h;obtain⟨l⟩:=e;have c:l.length=2:=c
 match l,c with
 |[a,b],_=>
  have i:a=vI x:=aK (d 0 (.int .i64 x) rfl);have j:b=vI y:=aK (d 1 (.int .i64 y) rfl);rw[i,j]
theorem Is{R:RO}{o:Go.Sx.Own}{p:SV}{v:Value}(b:QE p=true)(h:Rel R o p v):∃n,v=vI n:=by
 unfold QE at b;split at b
 . exact⟨_,aK h⟩
 . cases h;exact⟨_,rfl⟩
 . cases b
theorem QB{R:RO}{p q:SV}{v:Value}(e:QE p=true)(i:QE q=true)(h:Rel R Own.empty (.agg [.s p,.s q]) v):∃x y,v=.agg #[vI x,vI y]:=by
 obtain⟨j,rfl,c,d⟩:=cU h;obtain⟨l⟩:=j;have c:l.length=2:=c
 match l,c with
 |[a,b],_=>
  obtain⟨x,k⟩:=Is e (show Rel R Own.empty p a from d 0 p rfl);obtain⟨y,m⟩:=Is i (show Rel R Own.empty q b from d 1 q rfl);exact⟨x,y,by rw[k,m]⟩
theorem EC{w:World}{b o:Nat}{v:Value}(h:w.cell? ⟨b,o,none⟩=some v):b<w.heap.size:=by
 by_cases c:b<w.heap.size
 . exact c
 . have e:w.heap[b]?=none:=Y2 (by omega);simp[World.cell?,e]at h
set_option maxHeartbeats 2000000 in
theorem IH:cS prog 135 λargs=>(OY args).map λr=>(True,r):=by
 refine⟨⟨f135,func135,by kernel_rfl,by kernel_rfl⟩,λargs p r d hp R w j F k=>?_⟩;unfold OY at d;split at d
 case h_2=>cases d
 rename_i a0 a1 a2 x y a5 a6 a7 a8 a9 K L M N O X Z c G sp sq;split at d
 case h_2=>cases d
 rename_i i;simp only[Bool.and_eq_true]at i;simp only[Option.map_some,Option.some.injEq,Prod.mk.injEq]at d;obtain⟨rfl,rfl⟩:=d;obtain⟨l⟩:=j
 match l,k with
 |[u0,u1,u2,u3],⟨h0,h1,h2,h3,_⟩=>
  have e1:u1=.int .u32 c:=aK h1;have e2:u2=vI G:=aK h2;obtain⟨px,py,q⟩:=QB i.1 i.2 h3;subst e1;subst e2;subst q;obtain⟨cs,rfl,hs,u⟩:=cU h0;obtain⟨v0,v1,v2,v3,v4,v5,v6,v7,v8,v9,v10,v11,m,z,A,B,C,D,rfl⟩:=Vu (hs.trans (by simp[aa,ar.size]));have q:v3=vI x:=aK (u 3 (.int .i64 x) rfl);have e4:v4=vI y:=aK (u 4 (.int .i64 y) rfl);have WX:m=.slice none 0 0:=by
   have E:Rel R Own.empty .aq m:=u 12 .aq rfl;cases E;rfl
  subst q;subst e4;subst WX;refine callsIn_wide.1 ((QT Fence.wide 4 trivial trivial trivial trivial trivial rfl (Nat.le_refl _) v0 v1 v2 v5 v6 v7 v8 v9 v10 v11 _ z A B C D x y [] (by simp) c G px py FZ (λx y W=>VU Fence.wide 3 trivial rfl x y W) w (.inl ⟨rfl,none,0,rfl⟩)).mono ?_);rintro e W' ⟨rfl,H⟩;refine⟨_,R,rfl,?_,.refl _,λb o v J=>(F b o v J).of_heap (H.block b (EC (F _ _ _ J).1)),λ_ _ _=>rfl,H⟩
  exact CT _ _ _
 |[],h=>exact h.elim
 |[_],h=>exact h.2.elim
 |[_,_],h=>exact h.2.2.elim
 |[_,_,_],h=>exact h.2.2.2.elim
 |_::_::_::_::_::_,h=>exact h.2.2.2.2.elim
end Go.Proofs.Fi
namespace Go.Proofs.Top
open Go Go.Sx Go.Proofs Go.RowKit Tryz
variable [bW]
noncomputable def IT(f:Nat):Option Func:=match prog.funcs[f]? with
 |some fn=>match fn.body with
  |some _=>some fn
  |none=>none
 |none=>none
def DT(f:Nat):Option (List SV->Option SV):=match Nat.beq f 135 with
 |true=>some Fi.OY
 |false=>none
noncomputable def XT:DX:=⟨prog,IT,DT,[]⟩
def Sn (fn:Func):Bool:=match fn.body with
 |some _=> !(fn.name== "runtime.NumGoroutine")
 |none=>true
theorem names:prog.funcs.toList.all Sn=true:=by kernel_rfl
theorem hm:prog.follows .mixedOrders=true:=by kernel_rfl
theorem okT:An XT:=by
 refine⟨λf fn h=>?_,λf d h=>?_,yf.nil⟩
 . change IT f=some fn at h
   unfold IT at h;split at h
   case h_2=>cases h
   rename_i c k;split at h
   case h_2=>cases h
   rename_i b j;simp only[J3]at h;subst h;refine⟨k,by rw[j];simp[mB,j],?_⟩;have i:c∈prog.funcs.toList:=by
    have:=Array.mem_of_getElem? k;simpa using this
   have:=Js.1 names c i;simpa[Sn,j]using this
 . change DT f=some d at h
   unfold DT at h;split at h
   case h_2=>cases h
   rename_i e;simp only[J3]at h;subst h;rw[Jd e];exact Fi.IH
end Go.Proofs.Top
