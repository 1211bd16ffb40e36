import Derived.Test.YtpjiopgakifhaaaGreatZG
import Derived.KernelRfl
import Derived.Test.YtpjiopgakifhaaaGreatProg
import Derived.WalkKit
import Derived.RegionTactic
import Derived.ChangeAlike
namespace Go.Sx
def ab :Nat->Prop->Prop
 |0,p=>p
 |n+1,p=>True/\ab n p
theorem aA (n:Nat) (p:Prop):ab n p=p:=by
 induction n with
 |zero=>rfl
 |succ n ih=>simp only [ab,ih,true_and]
end Go.Sx
namespace Go.Proofs.Top
open Go Go.Sx Go.Proofs Go.RowKit
set_option linter.unusedSectionVars false
set_option linter.unusedVariables false
set_option linter.unusedSimpArgs false
attribute [local go_sem] Oper.semAt_some
structure Ex (b : Nat) (w w' : World) : Prop where
 os : w'.os = w.os
 tape : w'.tape = w.tape
 output : w'.output = w.output
 size : w.heap.size <= w'.heap.size
 block : ∀ k, k < w.heap.size -> k ≠ b -> w'.heap[k]? = w.heap[k]?
theorem Ex.refl (b:Nat) (w:World):Ex b w w:=⟨rfl,rfl,rfl,Nat.le_refl _,fun _ _ _=>rfl⟩
theorem Ex.trans {b:Nat} {u v w:World} (h:Ex b u v) (k:Ex b v w):Ex b u w:=⟨k.os.trans h.os,k.tape.trans h.tape,k.output.trans h.output,Nat.le_trans h.size k.size,fun i hi hb=>(k.block i (Nat.lt_of_lt_of_le hi h.size) hb).trans (h.block i hi hb)⟩
theorem Ex.drew {b:Nat} {u w:World} (h:Ex b u w):Ex b u w.drew:=⟨h.os,h.tape,h.output,h.size,h.block⟩
theorem Ex.set {b o:Nat} {u w:World} (h:Ex b u w) (v:Value):Ex b u (w.setCell ⟨b,o,none⟩ v):=by
 have:=(Below.refl 0 w).setCell (p:=⟨b,o,none⟩) (Nat.zero_le _) v
 exact⟨this.os.trans h.os,this.tape.trans h.tape,this.output.trans h.output,Nat.le_trans h.size this.size,fun i hi hb=>(Below.heap_setCell w _ v i hb).trans (h.block i hi hb)⟩
theorem Ex.alloc {b:Nat} {u w:World} (h:Ex b u w) (o:Obj):Ex b u (w.alloc o):=by
 have:=(Below.refl w.heap.size w).alloc (Nat.le_refl _) o
 exact⟨this.os.trans h.os,this.tape.trans h.tape,this.output.trans h.output,Nat.le_trans h.size this.size,fun i hi hb=>(Below.heap_alloc w o i (Nat.lt_of_lt_of_le hi h.size)).trans (h.block i hi hb)⟩
theorem Ex.below {b B:Nat} {u w:World} (h:Ex b u w) (hb:B<=b) (hB:B<=u.heap.size):Below B u w:=⟨h.os,h.tape,h.output,h.size,fun k hk=>h.block k (by omega) (by omega)⟩
structure Src (b : Nat) (a : Option Addr) (len cap k : Nat) (w : World) : Prop where
 PR : w.cell? ⟨b, 0, none⟩ = some (.slice a len cap)
 NO : w.cell? ⟨b, 1, none⟩ = some (.int .i64 (k : Int))
 free : w.frozen? ⟨b, 1, none⟩ = false
 there : b < w.heap.size
 row : ∀ j, j < len -> ∃ B o x, a = some ⟨B, o, none⟩ /\ B < b /\ w.cell? ⟨B, o + j, none⟩ = some (.int .i64 x)
theorem Src.move {b:Nat} {a:Option Addr} {len cap k:Nat} {w w':World} (h:Src b a len cap k w) (hb: ∀i,i<=b->w'.heap[i]?=w.heap[i]?) (hs:w.heap.size<=w'.heap.size):Src b a len cap k w':=by
 refine⟨(World.cell?_of_block (hb b (Nat.le_refl _))).trans h.PR,(World.cell?_of_block (hb b (Nat.le_refl _))).trans h.NO,(World.frozen?_of_block (hb b (Nat.le_refl _))).trans h.free,Nat.lt_of_lt_of_le h.there hs,fun j hj=> ?_⟩
 obtain⟨B,o,x,h1,h2,h3⟩:=h.row j hj
 exact⟨B,o,x,h1,h2,(World.cell?_of_block (hb B (Nat.le_of_lt h2))).trans h3⟩
theorem Src.alloc {b:Nat} {a:Option Addr} {len cap k:Nat} {w:World} (h:Src b a len cap k w) (o:Obj):Src b a len cap k (w.alloc o):=
 h.move (fun i hi=>Below.heap_alloc w o i (Nat.lt_of_le_of_lt hi h.there)) (by simp)
theorem Src.set {b:Nat} {a:Option Addr} {len cap k:Nat} {w:World} (h:Src b a len cap k w) (k':Nat):Src b a len cap k' (w.setCell ⟨b,1,none⟩ (.int .i64 (k':Int))):=by
 refine⟨(World.cell?_setCell_other _ _ _ _ (by simp)).trans h.PR,World.cell?_setCell_same _ _ _ h.NO,by rw [World.frozen?_setCell];exact h.free,?_,fun j hj=> ?_⟩
 . exact Nat.lt_of_lt_of_le h.there ((Below.refl 0 w).setCell (Nat.zero_le _) _).size
 . obtain⟨B,o,x,h1,h2,h3⟩:=h.row j hj
   exact⟨B,o,x,h1,h2,(World.cell?_setCell_other _ _ _ _ (fun e=>by injection e with e _ _;omega)).trans h3⟩
theorem Src.drew {b:Nat} {a:Option Addr} {len cap k:Nat} {w:World} (h:Src b a len cap k w):Src b a len cap k w.drew:=⟨h.PR,h.NO,h.free,h.there,h.row⟩
set_option maxRecDepth 100000 in
set_option maxHeartbeats 2000000 in
theorem OY {b:Nat} {a:Option Addr} {len cap k:Nat} (n:Int) {w:World} (hn:1<=n) (hn2:n<=2000) (hlen:len<=9223372036854775807) (hS:Src b a len cap k w):
 Calls Tryz.prog 20 #[.pointer (some ⟨b,0,none⟩), .int .i64 n] w fun e w'=> ∃x k',e= .returned (.int .i64 x)/\0<=x/\x<n/\Src b a len cap k' w'/\Ex b w w':=by
 have hS0:=hS
 obtain⟨h0,h1,hf,_,hr⟩:=hS
 by_cases hk:k<len
 . obtain⟨B,o,x,rfl,hB,hx⟩:=hr k hk
   clear hr
   have m1:x.tmod n<n:=Int.tmod_lt_of_pos x (by omega)
   have m2: -n<x.tmod n:=Int.lt_tmod_of_pos x (by omega)
   go_enter Tryz.func20,Tryz.ntmps20
   go_wp2
   go_region
   go_wp2
   go_region
   go_wp2
   all_goals
    clear hx h0 h1 hf
    go_ret
   . refine⟨_,k+1,rfl,?_,?_,(hS0.set (k+1)).drew.drew,((Ex.refl b w).set _).drew.drew⟩<;>(try simp only [RowKit.wrap64])<;>omega
   . refine⟨_,k+1,rfl,?_,?_,(hS0.set (k+1)).drew.drew,((Ex.refl b w).set _).drew.drew⟩<;>omega
 . clear hr
   go_enter Tryz.func20,Tryz.ntmps20
   go_wp2
   go_region
   go_wp2
   go_ret
   exact⟨0,k,rfl,Int.le_refl _,by omega,hS0.drew,(Ex.refl b w).drew⟩
set_option maxRecDepth 100000 in
set_option maxHeartbeats 2000000 in
theorem ml {b:Nat} {a:Option Addr} {len cap k:Nat} (lo hi:Int) {w:World} (hn:lo<=hi) (hn1: -1000<=lo) (hn2:hi<=900) (hlen:len<=9223372036854775807) (hS:Src b a len cap k w):
 Calls Tryz.prog 16 #[.pointer (some ⟨b,0,none⟩), .int .i64 lo, .int .i64 hi] w fun e w'=> ∃x k',e= .returned (.int .i64 x)/\lo<=x/\x<=hi/\Src b a len cap k' w'/\Ex b w w':=by
 have e1:RowKit.wrap64 (RowKit.wrap64 (hi-lo)+1)=hi-lo+1:=by simp only [RowKit.wrap64];omega
 go_enter Tryz.func16,Tryz.ntmps16
 go_wp2_with (go_at_call 20;go_loud (refine(OY _ (by omega) (by omega) hlen hS).mono ?_);rintro e w' ⟨x,k',rfl,hx0,hx1,hS',hE⟩)
 go_ret
 exact⟨_,k',rfl,by(try simp only [RowKit.wrap64]);omega,by(try simp only [RowKit.wrap64]);omega,hS',hE⟩
theorem Dh {w:World} {b o:Nat} {v:Value} (h:w.cell? ⟨b,o,none⟩=some v):b<w.heap.size:=by
 by_cases hb:b<w.heap.size
 . exact hb
 . have e:w.heap[b]?=none:=Array.getElem?_eq_none (by omega)
   simp [World.cell?,e]at h
structure Xn (c : Nat) (w : World) (x y : Int) : Prop where
 c0 : w.cell? ⟨c, 0, none⟩ = some (.int .i64 x)
 c1 : w.cell? ⟨c, 1, none⟩ = some (.int .i64 y)
 f0 : w.frozen? ⟨c, 0, none⟩ = false
 f1 : w.frozen? ⟨c, 1, none⟩ = false
theorem Xn.move {c:Nat} {w w':World} {x y:Int} (h:Xn c w x y) (hb:w'.heap[c]?=w.heap[c]?):Xn c w' x y:=
 ⟨(World.cell?_of_block hb).trans h.c0,(World.cell?_of_block hb).trans h.c1,(World.frozen?_of_block hb).trans h.f0,(World.frozen?_of_block hb).trans h.f1⟩
theorem Xn.new (w:World) (x y:Int):Xn w.heap.size (w.alloc (.cells #[.int .i64 x, .int .i64 y] 25)) x y:=⟨by simp,by simp,by simp,by simp⟩
set_option maxRecDepth 100000 in
set_option maxHeartbeats 2000000 in
theorem AS {b:Nat} {a:Option Addr} {len cap k:Nat} {w:World} (hlen:len<=9223372036854775807) (hS:Src b a len cap k w):
 Calls Tryz.prog 15 #[.pointer (some ⟨b,0,none⟩)] w fun e w'=> ∃x y k',e= .returned (.agg #[.int .i64 x, .int .i64 y])/\ -2500<=x/\x<=2500/\ -2500<=y/\y<=2500/\Src b a len cap k' w'/\Ex b w w':=by
 have hb:=hS.there
 have hS0:=hS.alloc (.cells #[.int .i64 0, .int .i64 0] 25)
 have hT0:=Xn.new w 0 0
 have hE0:=(Ex.refl b w).alloc (.cells #[.int .i64 0, .int .i64 0] 25)
 clear hS
 go_enter Tryz.func15,Tryz.ntmps15
 go_wp2_with first
  |(go_at_call 16;refine(ml (-50) 50 (by omega) (by omega) (by omega) hlen hS0).mono ?_;rintro e w1 ⟨x,k1,rfl,hx0,hx1,hS1,hE1⟩;have hT1:=hT0.move (hE1.block w.heap.size (by simp) (by omega));have hz1:w.heap.size<w1.heap.size:=Nat.lt_of_lt_of_le (by simp) hE1.size;have hE2:=hE0.trans hE1;clear hS0 hT0 hE1 hE0)
  |(go_at_call 16;refine(ml (-50) 50 (by omega) (by omega) (by omega) hlen hS1).mono ?_;rintro e w2 ⟨y,k2,rfl,hy0,hy1,hS2,hE3⟩;have hT2:=hT1.move (hE3.block w.heap.size hz1 (by omega));have hE4:=hE2.trans hE3;clear hS1 hT1 hE3 hE2;obtain⟨q0,q1,q2,q3⟩:=hT2)
 refine⟨rfl, .agg #[.int .i64 (50*x), .int .i64 (50*y)],?_,50*x,50*y,k2,rfl,by omega,by omega,by omega,by omega,?_,?_⟩
 . simp [results,Tryz.f15,go_sem,World.cell?_setCell_same',World.cell?_setCell_other,q0,q1,q2,q3]
 . have hlt:=hS2.there
   refine(hS2.move (fun i hi=> ?_) ?_)
   . rw [Below.heap_setCell _ _ _ _ (by simp;omega),Below.heap_setCell _ _ _ _ (by simp;omega)]
   . exact(((Below.refl 0 w2).setCell (Nat.zero_le _) _).setCell (Nat.zero_le _) _).size
 . have hB:Below w.heap.size w2 ((w2.setCell ⟨w.heap.size,0,none⟩ (.int .i64 (50*x))).setCell ⟨w.heap.size,1,none⟩ (.int .i64 (50*y))):=((Below.refl _ w2).setCell (p:=⟨w.heap.size,0,none⟩) (Nat.le_refl _) _).setCell (p:=⟨w.heap.size,1,none⟩) (Nat.le_refl _) _
   exact⟨hB.os.trans hE4.os,hB.tape.trans hE4.tape,hB.output.trans hE4.output,Nat.le_trans hE4.size hB.size,fun i hi h=>(hB.block i hi).trans (hE4.block i hi h)⟩
set_option maxRecDepth 100000 in
set_option maxHeartbeats 2000000 in
theorem MI {a:Option Addr} {len cap:Nat} {w:World} (hrow: ∀j,j<len-> ∃B o x,a=some ⟨B,o,none⟩/\w.cell? ⟨B,o+j,none⟩=some (.int .i64 x)):
 Calls Tryz.prog 14 #[.slice a len cap] w fun e w'=>e= .returned (.pointer (some ⟨w.heap.size,0,none⟩))/\Src w.heap.size a len cap 0 w'/\Below w.heap.size w w':=by
 go_enter Tryz.func14,Tryz.ntmps14
 go_wp2
 go_ret
 refine⟨rfl,⟨by simp,by simp,by simp,by simp,fun j hj=> ?_⟩,(Below.refl _ w).alloc (Nat.le_refl _) _⟩
 obtain⟨B,o,x,rfl,h⟩:=hrow j hj
 have hB:=Dh h
 exact⟨B,o,x,rfl,hB,(World.cell?_alloc_lt _ _ _ hB).trans h⟩
theorem Kc (x n:Int) {w:World} (hn:1<=n) (hn2:n<=2000):
 Calls Tryz.prog 13 #[.int .i64 x, .int .i64 n] w fun e w'=> ∃y,e= .returned (.int .i64 y)/\0<=y/\y<n/\w'=w:=by
 have m1:x.tmod n<n:=Int.tmod_lt_of_pos x (by omega)
 have m2: -n<x.tmod n:=Int.lt_tmod_of_pos x (by omega)
 go_enter Tryz.func13,Tryz.ntmps13
 go_wp2
 all_goals
  go_ret
  exact⟨_,rfl,by omega,by omega,rfl⟩
end Go.Proofs.Top
