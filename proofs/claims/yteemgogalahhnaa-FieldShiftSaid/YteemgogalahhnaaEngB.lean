/-
  The operations, on symbolic states: what each reads, asks for and writes. General: the program is a variable.
-/
import Derived.Test.YteemgogalahhnaaEngA
namespace Go.Sx
set_option linter.unusedVariables false
set_option linter.unusedSimpArgs false
open Go Go.RowKit

/-- What an operation does to a symbolic state: reads by location, requirements, writes. -/
inductive Tx : Type
  | done (ws : List (Loc × Item))
  | rd (l : Loc) (k : Item → Tx)
  | req (p : Prop) (k : Tx)
  | fail
def Tx.ok (s : St) : Tx → List (Loc × Item) → Prop
  | .done ws', ws => ws' = ws
  | .rd l k, ws => (k (s l)).ok s ws
  | .req p k, ws => p ∧ k.ok s ws
  | .fail, _ => False
def Tx.reads (s : St) : Tx → List Loc
  | .done _ => []
  | .rd l k => l :: (k (s l)).reads s
  | .req _ k => k.reads s
  | .fail => []
theorem Tx.local {s s' : St} : ∀ (t : Tx), (∀ l ∈ t.reads s, s' l = s l) → ∀ ws, t.ok s ws → t.ok s' ws
  | .done _, _, _, h => h
  | .rd l k, hr, ws, h => by
    have e : s' l = s l := hr l (by simp [Tx.reads])
    simp only [Tx.ok, e]
    exact Tx.local (k (s l)) (fun l' hl => hr l' (by simp [Tx.reads, hl])) ws h
  | .req p k, hr, ws, h => ⟨h.1, Tx.local k hr ws h.2⟩
  | .fail, _, _, h => h.elim

/-- What a function answers: a requirement and a result, for arguments of the right shape. -/
abbrev Ctr := List SV → Option (Prop × SV)

/-! ### Small readers -/
def rdT (t : Nat) (k : SV → Tx) : Tx := .rd (.tm t) fun | .v x => k x | _ => .fail
def rdM (id : Nat) (k : Mta → Tx) : Tx := .rd (.mt id) fun | .m (some x) => k x | _ => .fail
def rdFree (id : Nat) (k : Tx) : Tx := .rd (.mt id) fun | .m none => k | _ => .fail
def rdS (id q : Nat) (k : Seg → Tx) : Tx := .rd (.sg id q) fun | .s x => k x | _ => .fail
/-- The segments q, .., q + n - 1. -/
def rdSegs (id : Nat) : Nat → Nat → (List Seg → Tx) → Tx
  | _, 0, k => k []
  | q, n + 1, k => rdS id q fun x => rdSegs id (q + 1) n fun r => k (x :: r)
def constSV : Value → Option SV
  | .bool true => some .tt
  | .bool false => some .ff
  | .int k n => some (.int k n)
  | .string s => some (.str s.data.toList)
  | .slice none 0 0 => some .nils
  | _ => none
def rdO (o : Operand) (k : SV → Tx) : Tx :=
  match o with
  | .tmp t => rdT t k
  | .const v => match constSV v with
    | some x => k x
    | none => .fail
  | .func f => k (.fn f [] [])
  | .global _ => .fail
def rdOs : List Operand → (List SV → Tx) → Tx
  | [], k => k []
  | o :: r, k => rdO o fun x => rdOs r fun xs => k (x :: xs)
def setT (N : Nat) (dst : Option Tmp) (x : SV) : Tx :=
  match dst with
  | some d => if d < N then .done [(.tm d, .v x)] else .fail
  | none => .done []

/-! ### Values -/
def oneCell : SV → Bool
  | .any | .agg _ | .tup _ => false
  | _ => true
def toB : SV → Option Bool
  | .bool b => some b
  | .tt => some true
  | .ff => some false
  | _ => none
/-- 'if c then x else y'. -/
def mergeIf (c : Bool) : SV → SV → SV
  | .int k x, .int k' y => if k = k' then .int k (if c then x else y) else .any
  | .bool x, .bool y => .bool (if c then x else y)
  | .bool x, .tt => .bool (if c then x else true)
  | .bool x, .ff => .bool (if c then x else false)
  | .tt, .bool y => .bool (if c then true else y)
  | .ff, .bool y => .bool (if c then false else y)
  | .tt, .tt => .tt
  | .ff, .ff => .ff
  | .tt, .ff => .bool c
  | .ff, .tt => .bool (!c)
  | .str x, .str y => .str (if c then x else y)
  | .nils, .nils => .nils
  | .ros es n f, .ros es' n' f' => if es = es' then .ros es (if c then n else n') (fun i => if c then f i else f' i) else .any
  | .nils, .ros es n f => .ros es (if c then 0 else n) f
  | .ros es n f, .nils => .ros es (if c then n else 0) f
  | _, _ => .any
def mergeL (c : Bool) : List SV → List SV → List SV
  | x :: r, y :: r' => mergeIf c x y :: mergeL c r r'
  | _, _ => []

/-! ### Types -/
def isAggT (P : Program) (t : TypeId) : Option Bool :=
  match P.underlying t with
  | some (.struct _) | some (.array _ _) => some true
  | some _ => some false
  | none => none
def sizeT (P : Program) (t : TypeId) : Option Nat := (P.info? t).map (·.size)
/-- The zero value's segments. -/
def zeroSegs (P : Program) : Nat → TypeId → Option (List Seg)
  | 0, _ => none
  | d + 1, t =>
    match P.underlying t with
    | some (.int k) => some [.s (.int k 0)]
    | some .bool => some [.s .ff]
    | some .string => some [.s (.str [])]
    | some (.slice _) => some [.s .nils]
    | some (.struct fs) => zeroFields (fun t => zeroSegs P d t) fs.toList
    | some (.array n e) => match zeroSegs P d e with
      | some l => match cellsOf l with
        | some cs => some [.a n cs.length fun _ => cs]
        | none => none
      | none => none
    | _ => none
where
  zeroFields (z : TypeId → Option (List Seg)) : List Field → Option (List Seg)
    | [] => some []
    | f :: fs => match z f.type, zeroFields z fs with
      | some l, some r => some (l ++ r)
      | _, _ => none
  cellsOf : List Seg → Option (List SV)
    | [] => some []
    | .s v :: r => (cellsOf r).map (v :: ·)
    | .a .. :: _ => none
/-- Does the list of cells spell these segments out? -/
def spells : List Seg → List Value → Bool
  | [], [] => true
  | .s v :: r, c :: cs => (match v, c with
      | .int k n, .int k' n' => k == k' && n == n'
      | .ff, .bool b => !b
      | .str [], .string s => s.size == 0
      | .nils, .slice none 0 0 => true
      | _, _ => false) && spells r cs
  | .a n es f :: r, cs => cs.length ≥ n * es && ((List.range n).all fun i => spellsL (f i) ((cs.drop (i * es)).take es)) && spells r (cs.drop (n * es))
  | _, _ => false
where
  spellsL : List SV → List Value → Bool
    | [], [] => true
    | v :: r, c :: cs => (match v, c with
      | .int k n, .int k' n' => k == k' && n == n'
      | .ff, .bool b => !b
      | .str [], .string s => s.size == 0
      | .nils, .slice none 0 0 => true
      | _, _ => false) && spellsL r cs
    | _, _ => false
/-- The zero value of a type, held against the program's own. -/
def zeroOf (P : Program) (t : TypeId) : Option (List Seg × Value) :=
  match zeroSegs P 8 t, (P.info? t).bind (·.zero) with
  | some l, some z => if spells l z.cells.toList then some (l, z) else none
  | _, _ => none

/-! ### Where a field begins -/
/-- From the beginning of segment q on, 'off' cells further: the beginning of which segment? -/
def stepSh : List (Option (Nat × Nat)) → Nat → Nat → Option Nat
  | _, q, 0 => some q
  | none :: r, q, off + 1 => stepSh r (q + 1) off
  | some (n, es) :: r, q, off + 1 => if n * es ≤ off + 1 ∧ 0 < n * es then stepSh r (q + 1) (off + 1 - n * es) else none
  | [], _, _ + 1 => none
/-- The first segments that hold just m cells. -/
def takeSegs : List Seg → Nat → Option (List Seg)
  | _, 0 => some []
  | x :: r, m + 1 => if x.size ≤ m + 1 ∧ 0 < x.size then (takeSegs r (m + 1 - x.size)).map (x :: ·) else none
  | [], _ + 1 => none
def dropSegs : List Seg → Nat → Option (List Seg)
  | l, 0 => some l
  | x :: r, m + 1 => if x.size ≤ m + 1 ∧ 0 < x.size then dropSegs r (m + 1 - x.size) else none
  | [], _ + 1 => none
def cellsOfSegs : List Seg → Option (List SV)
  | [] => some []
  | .s v :: r => (cellsOfSegs r).map (v :: ·)
  | .a .. :: _ => none
/-- A value's cells, where it has no array among its parts. -/
def cellsOfSV : SV → Option (List SV)
  | .agg l => cellsOfSegs l
  | v => if oneCell v then some [v] else none
def segsOfSV : SV → Option (List Seg)
  | .agg l => some l
  | v => if oneCell v then some [.s v] else none
/-- The value of type T that lies in these cells. -/
def valOf (agg : Bool) (cs : List SV) : Option SV :=
  if agg then some (.agg (cs.map .s)) else match cs with
    | [v] => some v
    | _ => none
def setL (l : List SV) (j : Nat) (vs : List SV) : List SV := l.take j ++ vs ++ l.drop (j + vs.length)

/-! ### The operations -/
def segWrites (id : Nat) : Nat → List Seg → List (Loc × Item)
  | _, [] => []
  | q, x :: r => (.sg id q, .s x) :: segWrites id (q + 1) r
def newEnt (nid : Nat) (row : Bool) (app : Option TypeId) (es : Nat) (l : List Seg) : List (Loc × Item) :=
  (.mt nid, .m (some ⟨0, false, row, app, l.length, es, if row then [] else l.map Seg.shape⟩)) :: segWrites nid 0 l
def txNew (N nid : Nat) (dst : Option Tmp) (row : Bool) (app : Option TypeId) (es : Nat) (l : List Seg) (x : SV) : Tx :=
  match dst with
  | some d => if d < N then rdFree nid (.done (newEnt nid row app es l ++ [(.tm d, .v x)])) else .fail
  | none => .fail
def txBox (N nid : Nat) (dst : Option Tmp) (x : SV) : Tx :=
  match segsOfSV x with
  | some l => txNew N nid dst false none 0 l (.ptr nid 0)
  | none => .fail
def txAlloc (P : Program) (N nid : Nat) (dst : Option Tmp) (T : TypeId) : Tx :=
  match zeroOf P T with
  | some (l, _) => txNew N nid dst false none 0 l (.ptr nid 0)
  | none => .fail
def elemVal (agg : Bool) (n : Nat) (cs : List SV) (j : Nat) : Option SV :=
  if agg then (if j + n ≤ cs.length then some (.agg (((cs.drop j).take n).map .s)) else none) else (if n = 1 then cs[j]? else none)
def txLoad (P : Program) (N : Nat) (dst : Option Tmp) (T : TypeId) (x : SV) : Tx :=
  match isAggT P T, sizeT P T with
  | some agg, some n =>
    match x with
    | .ptr id q => rdM id fun m =>
      if m.row then .fail else
      if agg then (if q < m.ns then rdSegs id q (m.ns - q) fun l => match takeSegs l n with
        | some l' => setT N dst (.agg l')
        | none => .fail else .fail)
      else rdS id q fun
        | .s v => if q < m.ns then setT N dst v else .fail
        | _ => .fail
    | .pel id ver q i j => rdM id fun m =>
      if m.ver = ver ∧ q < m.ns then rdS id q fun
        | .a k es f => .req (i < k) (if (f i).length = es then (match elemVal agg n (f i) j with
          | some v => setT N dst v
          | none => .fail) else .fail)
        | _ => .fail
      else .fail
    | .rop es _ f i j => if (f i).length = es then (match elemVal agg n (f i) j with
      | some v => setT N dst v
      | none => .fail) else .fail
    | _ => .fail
  | _, _ => .fail
def scalarsOne : List Seg → Bool
  | [] => true
  | .s v :: r => oneCell v && scalarsOne r
  | .a _ _ _ :: r => scalarsOne r
def rowOne (es : Nat) (l : List SV) : Bool := l.length == es && l.all oneCell
def arrsOne : List Seg → Tx → Tx
  | [], k => k
  | .s _ :: r, k => arrsOne r k
  | .a n es f :: r, k => .req (∀ i, i < n → rowOne es (f i) = true) (arrsOne r k)
def txStore (P : Program) (T : TypeId) (x v : SV) : Tx :=
  match sizeT P T with
  | some n =>
    match x with
    | .ptr id q => rdM id fun m =>
      if m.row ∨ m.frz then .fail else
      match segsOfSV v with
      | some l => if segsSize l = n ∧ q + l.length ≤ m.ns ∧ (m.sh.drop q).take l.length = l.map Seg.shape ∧ scalarsOne l = true then arrsOne l (.done (segWrites id q l)) else .fail
      | none => .fail
    | .pel id ver q i j => rdM id fun m =>
      if m.ver = ver ∧ q < m.ns ∧ m.frz = false then rdS id q fun
        | .a k es f => match cellsOfSV v with
          | some cs => .req (i < k) (if (f i).length = es ∧ j + cs.length ≤ es ∧ cs.length = n ∧ cs.all oneCell = true then .done [(.sg id q, .s (.a k es fun i' => mergeL (decide (i' = i)) (setL (f i) j cs) (f i')))] else .fail)
          | none => .fail
        | _ => .fail
      else .fail
    | _ => .fail
  | none => .fail
def fieldOf (P : Program) (S : TypeId) (fi : Nat) : Option Field :=
  match P.underlying S with
  | some (.struct fs) => fs[fi]?
  | _ => none
def txFieldAddr (P : Program) (N : Nat) (dst : Option Tmp) (S : TypeId) (fi : Nat) (x : SV) : Tx :=
  match fieldOf P S fi with
  | some f => match sizeT P f.type with
    | some (_ + 1) => match x with
      | .ptr id q => rdM id fun m => if m.row then .fail else match stepSh (m.sh.drop q) q f.offset with
        | some q' => if q' < m.ns then setT N dst (.ptr id q') else .fail
        | none => .fail
      | .pel id ver q i j => setT N dst (.pel id ver q i (j + f.offset))
      | .rop es len g i j => setT N dst (.rop es len g i (j + f.offset))
      | _ => .fail
    | _ => .fail
  | none => .fail
def txIndexAddr (P : Program) (N : Nat) (dst : Option Tmp) (T : TypeId) (x ix : SV) : Tx :=
  match ix with
  | .int _ i => match P.underlying T with
    | some (.array len e) => match x, sizeT P e with
      | .ptr id q, some es => rdM id fun m => if m.row then .fail else
        if m.sh[q]? = some (some (len, es)) then .req (0 ≤ i ∧ i < (len : Int)) (setT N dst (.pel id 0 q i.toNat 0)) else .fail
      | _, _ => .fail
    | some (.slice e) => match x, sizeT P e with
      | .sl id ver off len, some es => rdM id fun m => if m.row = true ∧ m.es = es then .req (0 ≤ i ∧ i < (len : Int)) (setT N dst (.pel id ver 0 (off + i.toNat) 0)) else .fail
      | .ros es' len f, some es => if es' = es then .req (0 ≤ i ∧ i < (len : Int)) (setT N dst (.rop es' len f i.toNat 0)) else .fail
      | _, _ => .fail
    | _ => .fail
  | _ => .fail
def txIndex (P : Program) (N : Nat) (dst : Option Tmp) (T : TypeId) (x ix : SV) : Tx :=
  match ix with
  | .int _ i => match P.underlying T with
    | some (.array len e) => match x, sizeT P e, isAggT P e with
      | .agg [.a n es f], some es', some agg => if n = len ∧ es = es' then .req (0 ≤ i ∧ i < (len : Int)) (if (f i.toNat).length = es then (match elemVal agg es (f i.toNat) 0 with
        | some v => setT N dst v
        | none => .fail) else .fail) else .fail
      | _, _, _ => .fail
    | some .string => match x with
      | .str s => .req (0 ≤ i ∧ i < (s.length : Int)) (setT N dst (.int .u8 ((s.getD i.toNat 0).toNat : Int)))
      | _ => .fail
    | _ => .fail
  | _ => .fail
def txField (P : Program) (N : Nat) (dst : Option Tmp) (S : TypeId) (fi : Nat) (x : SV) : Tx :=
  match fieldOf P S fi, x with
  | some f, .agg l => match isAggT P f.type, sizeT P f.type, dropSegs l f.offset with
    | some true, some n, some r => match takeSegs r n with
      | some l' => setT N dst (.agg l')
      | none => .fail
    | some false, some _, some (.s v :: _) => setT N dst v
    | _, _, _ => .fail
  | _, _ => .fail
def txExtract (N : Nat) (dst : Option Tmp) (i : Nat) : SV → Tx
  | .tup l => match l[i]? with
    | some v => setT N dst v
    | none => .fail
  | _ => .fail
def pickV (c a b : SV) : Option SV :=
  match c with
  | .tt => some a
  | .ff => some b
  | .bool x => some (mergeIf x a b)
  | _ => none

/-! ### Integers, booleans, strings; whole aggregates compared -/
def eqCell : SV → SV → Bool
  | .int _ x, .int _ y => x == y
  | .str x, .str y => x == y
  | x, y => match toB x, toB y with
    | some a, some b => a == b
    | _, _ => false
def eqCells : List SV → List SV → Bool
  | x :: r, y :: r' => eqCell x y && eqCells r r'
  | _, _ => true
def eqSegs : List Seg → List Seg → Bool
  | .s x :: r, .s y :: r' => eqCell x y && eqSegs r r'
  | .a n _ f :: r, .a _ _ g :: r' => ((List.range n).all fun i => eqCells (f i) (g i)) && eqSegs r r'
  | _, _ => true
/-- The kinds of a comparable type's cells. -/
inductive CK
  | int (k : IntKind)
  | bool
  | str
  deriving DecidableEq
def kindOf : SV → Option CK
  | .int k _ => some (.int k)
  | .bool _ | .tt | .ff => some .bool
  | .str _ => some .str
  | _ => none
def kindsL : List SV → List CK → Bool
  | [], [] => true
  | v :: r, k :: ks => kindOf v == some k && kindsL r ks
  | _, _ => false
def cmpKinds (P : Program) : Nat → TypeId → Option (List CK)
  | 0, _ => none
  | d + 1, t =>
    match P.underlying t with
    | some (.int k) => some [.int k]
    | some .bool => some [.bool]
    | some .string => some [.str]
    | some (.struct fs) => if P.stoodInHeld t then none else fields (fun t => cmpKinds P d t) P 0 fs.toList
    | some (.array n e) => match cmpKinds P d e, sizeT P e with
      | some ks, some m => if ks.length = m then some ((List.replicate n ks).flatten) else none
      | _, _ => none
    | _ => none
where
  fields (z : TypeId → Option (List CK)) (P : Program) (off : Nat) : List Field → Option (List CK)
    | [] => some []
    | f :: fs => match z f.type, sizeT P f.type with
      | some l, some m => if f.name ≠ "_" ∧ f.offset = off ∧ l.length = m then (fields z P (off + m) fs).map (l ++ ·) else none
      | _, _ => none
/-- Is it one element's kinds, n times? -/
def uniK (es n : Nat) (ks : List CK) : Bool := (List.range n).all fun i => decide ((ks.drop (i * es)).take es = ks.take es)
/-- Do the cells of these segments have these kinds? -/
def fitsK : List Seg → List CK → Prop
  | [], ks => andB ks.isEmpty True
  | .s v :: r, k :: ks => andB (kindOf v == some k) (fitsK r ks)
  | .a n es f :: r, ks => andB (uniK es n ks && Nat.ble (n * es) ks.length) ((∀ i, i < n → kindsL (f i) (ks.take es) = true) ∧ fitsK r (ks.drop (n * es)))
  | _, _ => False
def sameShapes : List Seg → List Seg → Bool
  | [], [] => true
  | x :: r, y :: r' => (match x, y with | .s _, .s _ => true | .a n es _, .a n' es' _ => n == n' && es == es' | _, _ => false) && sameShapes r r'
  | _, _ => false
def intOp (op : BinOp) (k : IntKind) (x y : Int) : Option SV :=
  match op with
  | .add => some (.int k (k.wrap (x + y)))
  | .sub => some (.int k (k.wrap (x - y)))
  | .mul => some (.int k (k.wrap (x * y)))
  | .and | .or | .xor | .andNot => some (.int k (bits op k x y))
  | .eql => some (.bool (x == y))
  | .neq => some (.bool (x != y))
  | .lss => some (.bool (decide (x < y)))
  | .leq => some (.bool (decide (x ≤ y)))
  | .gtr => some (.bool (decide (x > y)))
  | .geq => some (.bool (decide (x ≥ y)))
  | _ => none
def txBin (P : Program) (N : Nat) (dst : Option Tmp) (op : BinOp) (T : TypeId) (x y : SV) : Tx :=
  match x, y with
  | .int k a, .int k' b =>
    match op with
    | .shl => .req (0 ≤ b) (setT N dst (.int k (k.wrap (a * 2 ^ min b.toNat k.bits))))
    | .shr => .req (0 ≤ b) (setT N dst (.int k (a / 2 ^ min b.toNat k.bits)))
    | .quo => if k = k' then .req (b ≠ 0) (setT N dst (.int k (k.wrap (a.tdiv b)))) else .fail
    | .rem => if k = k' then .req (b ≠ 0) (setT N dst (.int k (a.tmod b))) else .fail
    | _ => if k = k' then (match P.underlying T, intOp op k a b with
      | some (.int _), some v => setT N dst v
      | _, _ => .fail) else .fail
  | .str a, .str b =>
    match op with
    | .add => .req (a.length + b.length ≤ 9223372036854775807) (setT N dst (.str (a ++ b)))
    | .eql => setT N dst (.bool (a == b))
    | .neq => setT N dst (.bool (!(a == b)))
    | _ => .fail
  | .agg l, .agg l' =>
    match cmpKinds P 8 T with
    | some ks => if P.eqGuardType P.depth T = false ∧ sameShapes l l' = true ∧ isAggT P T = some true then .req (fitsK l ks ∧ fitsK l' ks) (match op with
      | .eql => setT N dst (.bool (eqSegs l l'))
      | .neq => setT N dst (.bool (!eqSegs l l'))
      | _ => .fail) else .fail
    | none => .fail
  | _, _ => match toB x, toB y, P.underlying T with
    | some a, some b, some .bool => match op with
      | .eql => setT N dst (.bool (a == b))
      | .neq => setT N dst (.bool (!(a == b)))
      | _ => .fail
    | _, _, _ => .fail
def txUn (N : Nat) (dst : Option Tmp) (op : UnOp) (x : SV) : Tx :=
  match op, x with
  | .not, .bool b => setT N dst (.bool (!b))
  | .not, .tt => setT N dst .ff
  | .not, .ff => setT N dst .tt
  | .neg, .int k n => setT N dst (.int k (k.wrap (0 - n)))
  | .xor, .int k n => setT N dst (.int k (bits .xor k (if k.signed then -1 else k.max) n))
  | _, _ => .fail
def txConvert (P : Program) (N : Nat) (dst : Option Tmp) (S D : TypeId) (x : SV) : Tx :=
  match P.underlying S, P.underlying D, x with
  | some (.int _), some (.int k), .int _ n => setT N dst (.int k (k.wrap n))
  | _, _, _ => .fail

/-! ### Aggregates and rows that are made -/
def buildS (P : Program) (T : TypeId) : List (Nat × SV) → List Seg → Option (List Seg)
  | [], l => some l
  | (i, v) :: r, l => match fieldOf P T i, segsOfSV v with
    | some f, some vs => if sizeT P f.type = some (segsSize vs) then (match takeSegs l f.offset, dropSegs l (f.offset + segsSize vs) with
      | some a, some b => buildS P T r (a ++ vs ++ b)
      | _, _ => none) else none
    | _, _ => none
def buildA (n es : Nat) : List (Nat × SV) → (Nat → List SV) → Option (Nat → List SV)
  | [], f => some f
  | (i, v) :: r, f => match cellsOfSV v with
    | some cs => if i < n ∧ cs.length = es then buildA n es r (if n = 1 then (fun _ => cs) else fun i' => mergeL (decide (i' = i)) cs (f i')) else none
    | none => none
def txBuild (P : Program) (N : Nat) (dst : Option Tmp) (T : TypeId) (parts : List (Nat × SV)) : Tx :=
  match zeroOf P T with
  | some (l, _) => match P.underlying T, l with
    | some (.struct fs), l => if fs.toList.all (fun f => (sizeT P f.type).isSome) = true then (match buildS P T parts l with
      | some l' => setT N dst (.agg l')
      | none => .fail) else .fail
    | some (.array n e), [.a n' es f] => if n = n' ∧ sizeT P e = some es then (match buildA n es parts f with
      | some f' => setT N dst (.agg [.a n es f'])
      | none => .fail) else .fail
    | _, _ => .fail
  | none => .fail
def zeroCellsOf (P : Program) (e : TypeId) : Option (List SV) :=
  match zeroOf P e with
  | some (l, _) => cellsOfSegs l
  | none => none
def txBuildSlice (P : Program) (N nid : Nat) (dst : Option Tmp) (T : TypeId) (len : Nat) (parts : List (Nat × SV)) : Tx :=
  match P.underlying T with
  | some (.slice e) => match zeroCellsOf P e, sizeT P e with
    | some z, some es => if z.length = es ∧ 0 < es ∧ len * es ≤ 16777216 then (match buildA len es parts (fun _ => z) with
      | some f => txNew N nid dst true (some e) es [.a len es f] (.sl nid 0 0 len)
      | none => .fail) else .fail
    | _, _ => .fail
  | _ => .fail
def txMakeSlice (P : Program) (N nid : Nat) (dst : Option Tmp) (T : TypeId) (x y : SV) : Tx :=
  match P.underlying T, x, y with
  | some (.slice e), .int .i64 n, .int .i64 n' => match zeroCellsOf P e, P.info? e with
    | some z, some i => if z.length = i.size ∧ 0 < i.size then
        .req (n' = n ∧ 0 ≤ n ∧ n ≤ 9223372036854775807 ∧ (i.bytes : Int) * n ≤ 281474976710656) (txNew N nid dst true (some e) i.size [.a n.toNat i.size fun _ => z] (.sl nid 0 0 n.toNat)) else .fail
    | _, _ => .fail
  | _, _, _ => .fail
/-- The bounds of a slice expression, as numbers. -/
def loOf : Option SV → Option Int
  | none => some 0
  | some (.int _ n) => some n
  | _ => none
def hiOf (len : Nat) : Option SV → Option Int
  | none => some (len : Int)
  | some (.int _ n) => some n
  | _ => none
def txSlice (P : Program) (N : Nat) (dst : Option Tmp) (T : TypeId) (x : SV) (lo hi : Option SV) : Tx :=
  match P.underlying T, x with
  | some .string, .str s => match loOf lo, hiOf s.length hi with
    | some l, some h => .req (0 ≤ l ∧ l ≤ h ∧ h ≤ (s.length : Int)) (setT N dst (.str ((s.take h.toNat).drop l.toNat)))
    | _, _ => .fail
  | some (.slice e), .ros es len f => match loOf lo, hiOf len hi with
    | some l, some h => if sizeT P e = some es then .req (0 ≤ l ∧ l ≤ h ∧ h ≤ (len : Int)) (setT N dst (.ros es (h - l).toNat fun i => f (l.toNat + i))) else .fail
    | _, _ => .fail
  | some (.slice e), .sl id ver off len => match loOf lo, hiOf len hi with
    | some l, some h => rdM id fun m => if m.row = true ∧ sizeT P e = some m.es then .req (0 ≤ l ∧ l < h ∧ h ≤ (len : Int)) (setT N dst (.sl id ver (off + l.toNat) (h - l).toNat)) else .fail
    | _, _ => .fail
  | _, _ => .fail

/-! ### Builtins -/
def closed1 : SV → Bool
  | .bool _ | .tt | .ff | .int _ _ | .str _ | .nils | .ros _ _ _ | .opq => true
  | _ => false
def rowOK (es : Nat) (l : List SV) : Bool := l.length == es && l.all closed1
def closedSegs : List Seg → Prop
  | [] => True
  | .s v :: r => andB (closed1 v) (closedSegs r)
  | .a n es f :: r => (∀ i, i < n → rowOK es (f i) = true) ∧ closedSegs r
def closedSV : SV → Prop
  | .agg l => closedSegs l
  | v => andB (closed1 v) True
/-- What a slice holds: how many elements, and which. -/
def rdRow (es : Nat) (x : SV) (k : Nat → (Nat → List SV) → Tx) : Tx :=
  match x with
  | .nils => k 0 fun _ => List.replicate es (.int .i64 0)
  | .ros es' len f => if es' = es then k len f else .fail
  | .sl id ver off len => rdM id fun m => if m.row = true ∧ m.ver = ver ∧ m.es = es then rdS id 0 fun
      | .a n es' f => if es' = es then .req (off + len ≤ n) (k len fun i => f (off + i)) else .fail
      | _ => .fail
    else .fail
  | _ => .fail
def txLen (P : Program) (N : Nat) (dst : Option Tmp) (T : TypeId) (x : SV) : Tx :=
  match P.underlying T, x with
  | some .string, .str s => setT N dst (.int .i64 (s.length : Int))
  | some (.array n _), _ => setT N dst (.int .i64 (n : Int))
  | some (.slice _), .ros _ len _ => setT N dst (.int .i64 (len : Int))
  | some (.slice _), .sl _ _ _ len => setT N dst (.int .i64 (len : Int))
  | some (.slice _), .nils => setT N dst (.int .i64 0)
  | _, _ => .fail
def minV : SV → SV → Option SV
  | .int k x, .int k' y => if k = k' then some (.int k (if y < x then y else x)) else none
  | _, _ => none
def maxV : SV → SV → Option SV
  | .int k x, .int k' y => if k = k' then some (.int k (if y > x then y else x)) else none
  | _, _ => none
def setO (N : Nat) (dst : Option Tmp) : Option SV → Tx
  | some v => setT N dst v
  | none => .fail
/-- k elements g behind what a slice holds. -/
def txAppTo (nid d : Nat) (e : TypeId) (es bytes : Nat) (x : SV) (k : Nat) (g : Nat → List SV) : Tx :=
  match x with
  | .nils => .req (k ≤ 140737488355328 ∧ k * bytes ≤ 140737488355328) (rdFree nid (.done (newEnt nid true (some e) es [.a k es g] ++ [(.tm d, .v (.sl nid 0 0 k))])))
  | .sl id ver off len => rdM id fun m => if m.row = true ∧ m.ver = ver ∧ m.es = es ∧ m.frz = false ∧ m.app = some e then rdS id 0 fun
      | .a n es' f => if es' = es then .req (off = 0 ∧ len = n ∧ n + k ≤ 140737488355328 ∧ (n + k) * bytes ≤ 140737488355328)
          (.done [(.mt id, .m (some { m with ver := ver + 1 })), (.sg id 0, .s (.a (n + k) es fun j => mergeL (decide (j < n)) (f j) (g (j - n)))), (.tm d, .v (.sl id (ver + 1) 0 (n + k)))]) else .fail
      | _ => .fail
    else .fail
  | _ => .fail
def txAppend (P : Program) (N nid : Nat) (dst : Option Tmp) (T : TypeId) (x y : SV) : Tx :=
  match P.underlying T with
  | some (.slice e) => match zeroCellsOf P e, P.info? e, dst with
    | some z, some i, some d => if z.length = i.size ∧ 0 < i.size ∧ d < N then
        rdRow i.size y fun k g =>
        .req (∀ j, j < k → rowOne i.size (g j) = true) (txAppTo nid d e i.size i.bytes x k g) else .fail
    | _, _, _ => .fail
  | _ => .fail

/-! ### Conversions between strings and rows of bytes -/
def isByte : List SV → Bool
  | [.int .u8 _] => true
  | _ => false
def byteOf : List SV → UInt8
  | [.int .u8 n] => UInt8.ofNat n.toNat
  | _ => 0
def bytesOf (n : Nat) (g : Nat → List SV) : List UInt8 := (List.range n).map fun j => byteOf (g j)
def byteSV (s : List UInt8) (i : Nat) : List SV := [.int .u8 ((s.getD i 0).toNat : Int)]
def txConv (P : Program) (N nid : Nat) (dst : Option Tmp) (S D : TypeId) (x : SV) : Tx :=
  match P.underlying S, P.underlying D with
  | some (.slice e), some .string => match P.underlying e with
    | some (.int .u8) => rdRow 1 x fun k g => .req (∀ j, j < k → isByte (g j) = true) (setT N dst (.str (bytesOf k g)))
    | _ => .fail
  | some .string, some (.slice e) => match P.underlying e, x with
    | some (.int .u8), .str s => txNew N nid dst true none 1 [.a s.length 1 (byteSV s)] (.sl nid 0 0 s.length)
    | _, _ => .fail
  | _, _ => txConvert P N dst S D x

/-- A string's bytes behind a row of bytes. -/
def isZeroByte : Option Value → Bool
  | some (.int .u8 0) => true
  | _ => false
def txAppendS (P : Program) (N nid : Nat) (dst : Option Tmp) (T U : TypeId) (x y : SV) : Tx :=
  match P.underlying T, P.underlying U, y with
  | some (.slice e), some .string, .str s => match P.info? e, dst with
    | some i, some d => if isZeroByte i.zero = true ∧ i.size = 1 ∧ i.bytes = 1 ∧ d < N then txAppTo nid d e 1 1 x s.length (byteSV s) else .fail
    | _, _ => .fail
  | _, _, _ => .fail
/-- k cells g over what an own row of cells holds. -/
def txCopyTo (N : Nat) (dst : Option Tmp) (x : SV) (k : Nat) (g : Nat → List SV) : Tx :=
  match x with
  | .sl id ver off len => rdM id fun m => if m.row = true ∧ m.ver = ver ∧ m.es = 1 ∧ m.frz = false ∧ m.app.isSome = true then rdS id 0 fun
      | .a n es f => match dst with
        | some d => if es = 1 ∧ d < N then .req (off + len ≤ n ∧ 0 < len)
            (.done [(.sg id 0, .s (.a n 1 fun j => mergeL (decide (off ≤ j ∧ j < off + min k len)) (g (j - off)) (f j))), (.tm d, .v (.int .i64 ((min k len : Nat) : Int)))]) else .fail
        | none => .fail
      | _ => .fail
    else .fail
  | _ => .fail
def txCopy (P : Program) (N : Nat) (dst : Option Tmp) (T : TypeId) (x y : SV) : Tx :=
  match P.underlying T with
  | some (.slice e) => match P.info? e with
    | some i => if i.size = 1 then (match y with
        | .str s => txCopyTo N dst x s.length (byteSV s)
        | y => rdRow 1 y fun k g => .req (∀ j, j < k → rowOne 1 (g j) = true) (txCopyTo N dst x k g)) else .fail
    | none => .fail
  | _ => .fail

/-! ### Calls -/
def resolve0 (x : SV) (k : SV → List (Loc × Item) → Tx) : Tx :=
  match x with
  | .sl id ver off len => rdM id fun m => if m.row = true ∧ m.ver = ver then rdS id 0 fun
      | .a n es f => if m.es = es then .req (off + len ≤ n ∧ ∀ i, i < n → rowOK es (f i) = true) (k (.ros es len fun i => f (off + i)) [(.mt id, .m (some { m with frz := true }))]) else .fail
      | _ => .fail
    else .fail
  | v => .req (closedSV v) (k v [])
def resolveC : List SV → (List SV → List (Loc × Item) → Tx) → Tx
  | [], k => k [] []
  | x :: r, k => resolve0 x fun x' ws => resolveC r fun r' ws' => k (x' :: r') (ws ++ ws')
/-- Does a slice in an own row lie among these cells? -/
def hasSl : List Seg → Bool
  | [] => false
  | .s (.sl _ _ _ _) :: _ => true
  | _ :: r => hasSl r
/-- As resolve0; of an aggregate, cell by cell where a slice in an own row lies in it. -/
def resolve1 (x : SV) (k : SV → List (Loc × Item) → Tx) : Tx :=
  match x with
  | .agg l => match hasSl l with
    | true => match cellsOfSegs l with
      | some cs => resolveC cs fun cs' ws => k (.agg (cs'.map .s)) ws
      | none => .fail
    | false => .req (closedSV (.agg l)) (k (.agg l) [])
  | v => resolve0 v k
def resolveL : List SV → (List SV → List (Loc × Item) → Tx) → Tx
  | [], k => k [] []
  | x :: r, k => resolve1 x fun x' ws => resolveL r fun r' ws' => k (x' :: r') (ws ++ ws')
def txFn (N : Nat) (C : Nat → Option Ctr) (dst : Option Tmp) (f : Nat) (args : List SV) : Tx :=
  match C f with
  | some c => resolveL args fun args' ws => match c args' with
    | some (p, r) => match dst with
      | some d => if d < N then .req p (.done (ws ++ [(.tm d, .v r)])) else .fail
      | none => .req p (.done ws)
    | none => .fail
  | none => .fail
def txCall (P : Program) (N nid : Nat) (C : Nat → Option Ctr) (dst : Option Tmp) (c : Call) : Tx :=
  match c.callee with
  | .value g => rdO g fun
    | .fn f a b => rdOs c.args.toList fun xs => txFn N C dst f (a ++ xs ++ b)
    | _ => .fail
  | .builtin b => rdOs c.args.toList fun xs =>
    match b, xs, c.argTypes.toList with
    | .len, [x], [t] => txLen P N dst t x
    | .min, [x, y], _ => setO N dst (minV x y)
    | .max, [x, y], _ => setO N dst (maxV x y)
    | .append, [x, y], [t, t'] => if t = t' then txAppend P N nid dst t x y else txAppendS P N nid dst t t' x y
    | .copy, [x, y], [t, _] => txCopy P N dst t x y
    | _, _, _ => .fail
  | _ => .fail

/-- What an operation does. 'nid': the name that a new block gets. -/
def txOp (P : Program) (N : Nat) (C : Nat → Option Ctr) (nid : Nat) (o : Oper) : Tx :=
  match o.op with
  | .move x | .assign x => rdO x (setT N o.dst)
  | .pick c a b => rdO c fun c => rdO a fun a => rdO b fun b => setO N o.dst (pickV c a b)
  | .extract t i => rdO t (txExtract N o.dst i)
  | .box _ x => rdO x (txBox N nid o.dst)
  | .alloc T => txAlloc P N nid o.dst T
  | .load T x => rdO x (txLoad P N o.dst T)
  | .store T x v => match o.dst with
    | none => rdO x fun x => rdO v fun v => txStore P T x v
    | some _ => .fail
  | .fieldAddr S x f => rdO x (txFieldAddr P N o.dst S f)
  | .indexAddr T x i => rdO x fun x => rdO i fun i => txIndexAddr P N o.dst T x i
  | .index T x i => rdO x fun x => rdO i fun i => txIndex P N o.dst T x i
  | .field S x f => rdO x (txField P N o.dst S f)
  | .build T parts => rdOs (parts.toList.map (·.2)) fun xs => txBuild P N o.dst T ((parts.toList.map (·.1)).zip xs)
  | .buildSlice T len parts => rdOs (parts.toList.map (·.2)) fun xs => txBuildSlice P N nid o.dst T len ((parts.toList.map (·.1)).zip xs)
  | .binOp op T x y _ => rdO x fun x => rdO y fun y => txBin P N o.dst op T x y
  | .unOp op _ x => rdO x (txUn N o.dst op)
  | .convert S D x => rdO x (txConv P N nid o.dst S D)
  | .makeSlice T l c => rdO l fun x => rdO c fun y => txMakeSlice P N nid o.dst T x y
  | .slice T x lo hi none => rdO x fun x => rdOpt lo fun lo => rdOpt hi fun hi => txSlice P N o.dst T x lo hi
  | .makeFunc (.func f) a b => rdOs a.toList fun a => rdOs b.toList fun b => setT N o.dst (.fn f a b)
  | .call c => txCall P N nid C o.dst c
  | _ => .fail
where
  rdOpt (o : Option Operand) (k : Option SV → Tx) : Tx := match o with
    | none => k none
    | some o => rdO o fun x => k (some x)
end Go.Sx
