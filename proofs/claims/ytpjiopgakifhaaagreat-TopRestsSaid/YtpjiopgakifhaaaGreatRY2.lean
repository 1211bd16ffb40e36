import Derived.Test.YtpjiopgakifhaaaGreatRA
import Derived.Test.YtpjiopgakifhaaaGreatRY1
set_option linter.unusedSectionVars false
set_option linter.unusedSimpArgs false
set_option linter.unusedVariables false
set_option maxRecDepth 100000
namespace Go.Proofs.Big
open Go Go.Sx Go.Proofs
def mxN(a d:Nat):Nat:=match Nat.ble a d with
 |true=>d
 |false=>a
def mnN(b u:Nat):Nat:=match Nat.ble b u with
 |true=>b
 |false=>u
def kK:Nat->Nat->Nat->Nat->Nat->Nat->Nat->Nat->Bool
 |0,_,_,_,_,_,_,_=>false
 |f+1,h,e,a,b,v,t,k=>match Nat.ble (Nat.add b (Nat.mul k v)) (Nat.mul (Nat.mul k k) h)with
  |true=>true
  |false=>cd (Nat.sub (Nat.mul (Nat.mul k k) h) (Nat.mul k v)) λd=>cd (Nat.sub (Nat.mul (Nat.mul (Nat.succ k) (Nat.succ k)) h) (Nat.mul (Nat.succ k) v)) λu=>
   cd (mxN a d) λc=>cd (mnN b u) λi=>
   and (match Nat.ble i c with
    |true=>true
    |false=>match Nat.beq k 0 with
     |true=>Nat.ble 1 t
     |false=>and (and (Nat.ble k t) (Nat.ble v (Nat.mul (Nat.mul 2 h) k))) (cd (Nat.sub (Nat.add c (Nat.mul k v)) (Nat.mul (Nat.mul k k) h)) λj=>cd (Nat.sub (Nat.add i (Nat.mul k v)) (Nat.mul (Nat.mul k k) h)) λm=>
      cd (Nat.div (Nat.mul e (Nat.sub (Nat.mul (Nat.mul 2 h) k) v)) 16) λo=>cd (Nat.sub t k) λp=>kK f h e j m o p 0))
    (kK f h e a b v t (Nat.succ k))
def chkH(h:Nat):Bool:=(List.range 9).all λe=>kK 600 h e 0 1000 0 249 0
theorem ck_1:((List.range 3).all λk=>chkH (1+k))=true:=by kernel_rfl
theorem ck_4:((List.range 7).all λk=>chkH (4+k))=true:=by kernel_rfl
theorem ck_11:((List.range 20).all λk=>chkH (11+k))=true:=by kernel_rfl
theorem part_h{n a:Nat}(q:((List.range n).all λk=>chkH (a+k))=true){h:Nat}(b:a<=h)(c:h<a+n):chkH h=true:=by
 have:=Js.1 q (h-a) (Kn.2 (by omega))
 rwa[show a+(h-a)=h by omega]at this
theorem ck_all{h:Nat}(b:1<=h)(c:h<=30):chkH h=true:=by
 rcases(show h<4\/(4<=h/\h<11)\/11<=h by omega)with q|q|q
 . exact part_h ck_1 b (by omega)
 . exact part_h ck_4 q.1 (by omega)
 . exact part_h ck_11 q (by omega)
theorem mxN_eq(a d:Nat):mxN a d=max a d:=by
 unfold mxN;split
 . rename_i h;have:=Qk h;omega
 . rename_i h;have: ¬a<=d:=λk=>by rw[Nat.ble_eq_true_of_le k]at h;cases h
   omega
theorem mnN_eq(b u:Nat):mnN b u=min b u:=by
 unfold mnN;split
 . rename_i h;have:=Qk h;omega
 . rename_i h;have: ¬b<=u:=λk=>by rw[Nat.ble_eq_true_of_le k]at h;cases h
   omega
theorem dN{β:Type}(n:Nat)(k:Nat->β):cd n k=k n:=by cases n<;>rfl
end Go.Proofs.Big
