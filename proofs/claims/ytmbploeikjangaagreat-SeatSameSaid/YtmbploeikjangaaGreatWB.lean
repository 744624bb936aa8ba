/- The small language of operations, resolved against a program's types, and what an operation does to abstract values and objects. -/
import Derived.Test.YtmbploeikjangaaGreatWA
set_option linter.unusedSimpArgs false
set_option linter.unusedVariables false
namespace Go.W

inductive X where
  | t (n : Nat)
  | c (v : AV)
  deriving Inhabited

/-- The kind of a cell that is compared. -/
inductive LK where
  | b | i | s
  deriving Inhabited

/-- How two values of a type are compared. -/
inductive EqK where
  | bool | string | iface | ptr | slice | func
  | flat (ks : List LK)
  deriving Inhabited

/-- An operation on a map, or on what goes over it. -/
inductive MapOp where
  | mk
  | lk (ok : Bool) (z : AV) (x k : X)
  | up (x k v : X)
  | en (z : AV) (x k : X)
  | st (x s v : X)
  | ln (x : X)
  | rg (x : X)
  | nx (x : X)
  | nt (x : X)
  deriving Inhabited

inductive MOp where
  | mv (x : X)
  | pick (c a b : X)
  | alloc (z : List AV)
  | box (x : X)
  | load (ag : Bool) (n : Nat) (x : X)
  | store (n : Nat) (x y : X)
  | nilck (x : X)
  | bin (op : BinOp) (x y : X)
  | eq (ng : Bool) (k : EqK) (x y : X)
  | un (op : UnOp) (x : X)
  | conv (k : IntKind) (x : X)
  | mkif (t : TypeId) (x : X)
  | faddr (off : Nat) (x : X)
  | fld (ag : Bool) (off n : Nat) (x : X)
  | iaddr (sz : Nat) (x i : X)
  | paddr (len sz : Nat) (x i : X)
  | idx (ag : Bool) (len sz : Nat) (x i : X)
  | slc (sz : Nat) (x : X) (lo hi : Option X)
  | len (x : X)
  | slen (x : X)
  | cap (x : X)
  | stop
  | mn (xs : List X)
  | mx (xs : List X)
  | app (sz bytes : Nat) (x y : X)
  | appz (sz bytes : Nat) (x y : X)
  | mks (sz bytes : Nat) (z : List AV) (l c : X)
  | build (z : List AV) (ps : List (Nat × Nat × X))
  | bsl (sz n : Nat) (z : List AV) (ps : List (Nat × Nat × X))
  | ext (x : X) (i : Nat)
  | tas (t : TypeId) (z : AV) (ok : Bool) (x : X)
  | mkfn (f : FuncId) (cap : List X)
  | call (f : X) (args : List X)
  | clr (sz : Nat) (x : X)
  | mp (o : MapOp)
  deriving Inhabited

/-- What an operation comes to: a value, objects that change, objects that were looked at. -/
structure FRes where
  v : AV
  hs : List (Nm × AObj)
  rd : List Nm

def updL {κ α : Type} [DecidableEq κ] (H : κ → α) : List (κ × α) → κ → α
  | [] => H
  | (x, o) :: r => updL (upd H x o) r

def X.ev (T : Nat → AV) : X → AV
  | .t n => T n
  | .c v => v

def pickV (c : Bool) (a b : AV) : AV :=
  match a, b with
  | .bool p, .bool q => .bool (if c = true then p else q)
  | _, _ => if c = true then a else b

/-- The cells of an object's element. -/
def elemOf : AObj → Nat → Option (List AV)
  | .cells c, i => if i = 0 then some c else none
  | .arr _ n f, i => if i < n then some (f i) else none
  | .view _ n f, i => if i < n then some (f i) else none
  | .free, _ => none

def splice (c : List AV) (f : Nat) (l : List AV) : List AV := c.take f ++ l ++ c.drop (f + l.length)

def setElem : AObj → Nat → Nat → List AV → Option AObj
  | .cells c, i, f, l => if i = 0 then (if f + l.length ≤ c.length then some (.cells (splice c f l)) else none) else none
  | .arr sz n g, i, f, l => if i < n then (if f + l.length ≤ sz then some (.arr sz n (fun j => if j = i then splice (g j) f l else g j)) else none) else none
  | _, _, _, _ => none

def bitI (op : BinOp) (k : IntKind) (a b : Int) : Int :=
  match op with
  | .and => k.wrap (BitVec.ofInt k.bits a &&& BitVec.ofInt k.bits b).toNat
  | .or => k.wrap (BitVec.ofInt k.bits a ||| BitVec.ofInt k.bits b).toNat
  | .xor => k.wrap (BitVec.ofInt k.bits a ^^^ BitVec.ofInt k.bits b).toNat
  | _ => k.wrap (BitVec.ofInt k.bits a &&& ~~~ BitVec.ofInt k.bits b).toNat

def binI (op : BinOp) (k : IntKind) (a b : Int) : Option AV :=
  match op with
  | .add => some (.int k (k.wrap (a + b)))
  | .sub => some (.int k (k.wrap (a - b)))
  | .mul => some (.int k (k.wrap (a * b)))
  | .quo => if b = 0 then none else some (.int k (k.wrap (a.tdiv b)))
  | .rem => if b = 0 then none else some (.int k (a.tmod b))
  | .and => some (.int k (bitI .and k a b))
  | .or => some (.int k (bitI .or k a b))
  | .xor => some (.int k (bitI .xor k a b))
  | .andNot => some (.int k (bitI .andNot k a b))
  | .eql => some (.bool (decide (a = b)))
  | .neq => some (.bool (decide (a ≠ b)))
  | .lss => some (.bool (decide (a < b)))
  | .leq => some (.bool (decide (a ≤ b)))
  | .gtr => some (.bool (decide (b < a)))
  | .geq => some (.bool (decide (b ≤ a)))
  | .shl => none
  | .shr => none

def shlI (k : IntKind) (a b : Int) : Int := k.wrap (a * 2 ^ (min b.toNat k.bits))
def shrI (k : IntKind) (a b : Int) : Int := a.fdiv (2 ^ (min b.toNat k.bits))

def eq1 : LK → AV → AV → Option Bool
  | .i, .int k a, .int k' b => if k = k' then some (decide (a = b)) else none
  | .b, .bool a, .bool b => some (a == b)
  | .s, .str a, .str b => some (a == b)
  | _, _, _ => none

def eqL : List LK → List AV → List AV → Option Bool
  | [], [], [] => some true
  | k :: ks, a :: as, b :: bs => match eq1 k a b, eqL ks as bs with
    | some x, some y => some (x && y)
    | _, _ => none
  | _, _, _ => none

def eqV (k : EqK) (a b : AV) : Option Bool :=
  match k, a, b with
  | .bool, .bool a, .bool b => some (a == b)
  | .string, .str a, .str b => some (a == b)
  | .iface, .iface _ _, .raw .nilIface => some false
  | .iface, .raw .nilIface, .raw .nilIface => some true
  | .ptr, .ptr _ _ _, .raw (.pointer none) => some false
  | .ptr, .raw (.pointer none), .raw (.pointer none) => some true
  | .flat ks, .agg a, .agg b => eqL ks a b
  | .slice, .sl _ _ n, _ => if 0 < n then some false else none
  | .slice, .raw (.slice none _ _), _ => some true
  | .slice, .raw (.slice (some _) _ _), _ => some false
  | .func, .fn _ _, _ => some false
  | .func, .raw .nilFunc, _ => some true
  | _, _, _ => none

def minI (k : IntKind) : List AV → Option Int
  | [.int k' n] => if k' = k then some n else none
  | .int k' n :: r => if k' = k then (match minI k r with | some m => some (if m < n then m else n) | none => none) else none
  | _ => none

/-- Parts put into cells. -/
def fillA : List AV → List (Nat × Nat × AV) → Option (List AV)
  | c, [] => some c
  | c, (off, n, v) :: r => if v.cells.length = n ∧ off + n ≤ c.length ∧ v.cells.all AV.one = true then fillA (splice c off v.cells) r else none

def argsOf (T : Nat → AV) (ps : List (Nat × Nat × X)) : List (Nat × Nat × AV) := ps.map fun (a, b, x) => (a, b, x.ev T)

/-- A slice's elements, as an object has them: how many there are, and each. -/
def readSl (H : Nm → AObj) : AV → Option (Nat × (Nat → List AV) × List Nm × Nat)
  | .nsl => some (0, fun _ => [], [], 0)
  | .raw (.slice (some _) 0 _) => some (0, fun _ => [], [], 0)
  | .sl o i n => match H o with
    | .arr sz m f => if i + n ≤ m then some (n, fun j => f (i + j), [o], sz) else none
    | .view sz m f => if i + n ≤ m then some (n, fun j => f (i + j), [o], sz) else none
    | _ => none
  | _ => none

def szObj : AObj → Option Nat
  | .arr sz _ _ => some sz
  | .view sz _ _ => some sz
  | _ => none

def appF (n : Nat) (f g : Nat → List AV) : Nat → List AV := fun j => if j < n then f j else g (j - n)

def stepF (T : Nat → AV) (H : Nm → AObj) (nb : Nm) : MOp → Option FRes
  | .mv x => some ⟨x.ev T, [], []⟩
  | .pick c a b => match c.ev T with
    | .bool cb => some ⟨pickV cb (a.ev T) (b.ev T), [], []⟩
    | _ => none
  | .alloc z => some ⟨.ptr nb 0 0, [(nb, .cells z)], []⟩
  | .box x => if (x.ev T).cells.all AV.one = true then some ⟨.ptr nb 0 0, [(nb, .cells (x.ev T).cells)], []⟩ else none
  | .load ag n x => match x.ev T with
    | .ptr o i f => match elemOf (H o) i with
      | some c => if ag = true then (if f + n ≤ c.length then some ⟨.agg ((c.drop f).take n), [], [o]⟩ else none)
        else (match c[f]? with
          | some v => some ⟨v, [], [o]⟩
          | none => none)
      | none => none
    | _ => none
  | .store n x y => match x.ev T with
    | .ptr o i f => if (y.ev T).cells.all AV.one = true ∧ (y.ev T).cells.length = n then
        (match setElem (H o) i f (y.ev T).cells with
        | some o' => some ⟨.bot, [(o, o')], []⟩
        | none => none) else none
    | _ => none
  | .nilck x => match x.ev T with
    | .ptr o i f => some ⟨.ptr o i f, [], []⟩
    | .fn f c => some ⟨.fn f c, [], []⟩
    | .iface t v => some ⟨.iface t v, [], []⟩
    | _ => none
  | .bin op x y => match x.ev T, y.ev T with
    | .int k a, .int k' b =>
      if op = .shl then (if b < 0 then none else some ⟨.int k (shlI k a b), [], []⟩)
      else if op = .shr then (if b < 0 then none else some ⟨.int k (shrI k a b), [], []⟩)
      else if k = k' then (match binI op k a b with
        | some v => some ⟨v, [], []⟩
        | none => none) else none
    | _, _ => none
  | .eq ng k x y => match eqV k (x.ev T) (y.ev T) with
    | some b => some ⟨.bool (if ng = true then !b else b), [], []⟩
    | none => none
  | .un op x => match op, x.ev T with
    | .not, .bool b => some ⟨.bool (!b), [], []⟩
    | .neg, .int k n => some ⟨.int k (k.wrap (0 - n)), [], []⟩
    | _, _ => none
  | .conv k x => match x.ev T with
    | .int _ n => some ⟨.int k (k.wrap n), [], []⟩
    | _ => none
  | .mkif t x => some ⟨.iface t (x.ev T), [], []⟩
  | .faddr off x => match x.ev T with
    | .ptr o i f => some ⟨.ptr o i (f + off), [], []⟩
    | _ => none
  | .fld ag off n x => match x.ev T with
    | .agg c => if ag = true then (if off + n ≤ c.length then some ⟨.agg ((c.drop off).take n), [], []⟩ else none)
      else (match c[off]? with
        | some v => some ⟨v, [], []⟩
        | none => none)
    | _ => none
  | .iaddr sz x i => match x.ev T, i.ev T with
    | .sl o s n, .int _ j => if szObj (H o) = some sz then (if 0 ≤ j ∧ j < n then some ⟨.ptr o (s + j.toNat) 0, [], [o]⟩ else none) else none
    | _, _ => none
  | .paddr len sz x i => match x.ev T, i.ev T with
    | .ptr o b f, .int _ j => if 0 ≤ j ∧ j < len then some ⟨.ptr o b (f + j.toNat * sz), [], []⟩ else none
    | _, _ => none
  | .idx ag len sz x i => match x.ev T, i.ev T with
    | .agg c, .int _ j => if 0 ≤ j ∧ j < len ∧ c.length = len * sz then
        (if ag = true then some ⟨.agg ((c.drop (j.toNat * sz)).take sz), [], []⟩
        else (match c[j.toNat]? with
          | some v => if sz = 1 then some ⟨v, [], []⟩ else none
          | none => none)) else none
    | _, _ => none
  | .slc sz x lo hi => match x.ev T with
    | .sl o s n =>
      match lo.elim (AV.int .i64 0) (X.ev T), hi.elim (AV.int .i64 n) (X.ev T) with
      | .int _ l, .int _ h => if szObj (H o) = some sz then (if 0 ≤ l ∧ l ≤ h ∧ h ≤ n then some ⟨.sl o (s + l.toNat) (h.toNat - l.toNat), [], [o]⟩ else none) else none
      | _, _ => none
    | .nsl =>
      match lo.elim (AV.int .i64 0) (X.ev T), hi.elim (AV.int .i64 0) (X.ev T) with
      | .int _ l, .int _ h => if l = 0 ∧ h = 0 then some ⟨.nsl, [], []⟩ else none
      | _, _ => none
    | _ => none
  | .len x => match x.ev T with
    | .sl _ _ n => some ⟨.int .i64 n, [], []⟩
    | .nsl => some ⟨.int .i64 0, [], []⟩
    | _ => none
  | .slen x => match x.ev T with
    | .str s => some ⟨.int .i64 s.size, [], []⟩
    | _ => none
  | .cap x => match x.ev T with
    | .nsl => some ⟨.int .i64 0, [], []⟩
    | _ => none
  | .stop => none
  | .mn xs => match xs.map (X.ev T) with
    | [.int k a, .int k' b] => if k = k' then some ⟨.int k (if b < a then b else a), [], []⟩ else none
    | _ => none
  | .mx xs => match xs.map (X.ev T) with
    | [.int k a, .int k' b] => if k = k' then some ⟨.int k (if a < b then b else a), [], []⟩ else none
    | _ => none
  | .app sz bytes x y => match readSl H (y.ev T) with
    | some (n', g, rd, sz') =>
      if n' = 0 ∨ sz' = sz then
        (match x.ev T with
        | .nsl => if n' * bytes ≤ 140737488355328 ∧ n' ≤ 9223372036854775807 then some ⟨.sl nb 0 n', [(nb, .arr sz n' g)], rd⟩ else none
        | .sl o s n => match H o with
          | .arr sz2 m f => if sz2 = sz ∧ s + n = m ∧ (n + n') * bytes ≤ 140737488355328 ∧ n + n' ≤ 9223372036854775807 then
              some ⟨.sl nb 0 (n + n'), [(o, .free), (nb, .arr sz (n + n') (appF n (fun j => f (s + j)) g))], rd⟩ else none
          | _ => none
        | _ => none)
      else none
    | none => none
  | .appz sz bytes x y => match x.ev T, y.ev T with
    | .nsl, .int .i64 n => if 0 < n ∧ n * bytes ≤ 140737488355328 ∧ n ≤ 9223372036854775807 then some ⟨.sl nb 0 n.toNat, [(nb, .arr sz 0 (fun _ => []))], []⟩ else none
    | _, _ => none
  | .mks sz bytes z l c => match l.ev T, c.ev T with
    | .int _ a, .int _ b => if a = b ∧ 0 ≤ a ∧ a * bytes ≤ 281474976710656 ∧ a ≤ 9223372036854775807 ∧ z.length = sz then some ⟨.sl nb 0 a.toNat, [(nb, .arr sz a.toNat (fun _ => z))], []⟩ else none
    | _, _ => none
  | .build z ps => match fillA z (argsOf T ps) with
    | some c => some ⟨.agg c, [], []⟩
    | none => none
  | .bsl sz n z ps => match fillA ((List.replicate n z).flatten) (argsOf T ps) with
    | some c => if c.length = n * sz ∧ n * sz ≤ 16777216 ∧ 0 < sz then some ⟨.sl nb 0 n, [(nb, .arr sz n (fun j => (c.drop (j * sz)).take sz))], []⟩ else none
    | none => none
  | .ext x i => match x.ev T with
    | .tup l => match l[i]? with
      | some v => some ⟨v, [], []⟩
      | none => none
    | _ => none
  | .tas t z ok x => match x.ev T with
    | .iface t' v => if t' = t then some ⟨if ok = true then .tup [v, .bool true] else v, [], []⟩ else if ok = true then some ⟨.tup [z, .bool false], [], []⟩ else none
    | .raw .nilIface => if ok = true then some ⟨.tup [z, .bool false], [], []⟩ else none
    | _ => none
  | .mkfn f cap => some ⟨.fn f (cap.map (X.ev T)), [], []⟩
  | .call _ _ => none
  | .mp _ => none
  | .clr sz x => match x.ev T with
    | .sl o s n => match H o with
      | .arr sz' m f => if sz' = sz ∧ 0 < n ∧ s + n = m then some ⟨.tup [], [(o, .arr sz s f)], []⟩ else none
      | _ => none
    | _ => none

/-! ### Resolving the model's operations -/
def ofC : Value → AV
  | .int k n => .int k n
  | .bool b => .bool b
  | .string s => .str s
  | .slice none 0 0 => .nsl
  | v => .raw v

def ofV : Value → AV
  | .agg cs => .agg (cs.toList.map ofC)
  | v => ofC v

def rX : Operand → X
  | .tmp t => .t t
  | .const v => .c (ofV v)
  | .func f => .c (.fn f [])
  | .global g => .c (.raw (.pointer (some ⟨g, 0, none⟩)))

def isAg (P : Program) (t : TypeId) : Option Bool :=
  match P.underlying t with
  | some (.struct _) | some (.array _ _) => some true
  | some _ => some false
  | none => none

def szOf (P : Program) (t : TypeId) : Option Nat := (P.info? t).map (·.size)

def zeroOf (P : Program) (t : TypeId) : Option (List AV) :=
  match P.info? t with
  | some i => match i.zero with
    | some z => if (z.cells.toList.map ofC).all AV.one = true then some (z.cells.toList.map ofC) else none
    | none => none
  | none => none

/-- The zero value of a type, whole. -/
def zeroV (P : Program) (t : TypeId) : Option AV :=
  match P.info? t with
  | some i => match i.zero with
    | some z => some (ofV z)
    | none => none
  | none => none

/-- The zero value of a type of one cell. -/
def zero1 (P : Program) (t : TypeId) : Option AV :=
  match P.info? t with
  | some i => match i.zero with
    | some z => if z.oneCell' = true then some (ofC z) else none
    | none => none
  | none => none

def placesOf (P : Program) : List Field → Option (List (Nat × Nat))
  | [] => some []
  | f :: fs => match szOf P f.type, placesOf P fs with
    | some n, some r => some ((f.offset, n) :: r)
    | _, _ => none

def rParts (pl : Nat → Option (Nat × Nat)) : List (Nat × Operand) → Option (List (Nat × Nat × X))
  | [] => some []
  | (i, x) :: r => match pl i, rParts pl r with
    | some (off, n), some q => some ((off, n, rX x) :: q)
    | _, _ => none

def flatFields (P : Program) (fa : TypeId → Option (List LK)) : List Field → Nat → Option (List LK)
  | [], _ => some []
  | f :: fs, off => match fa f.type, flatFields P fa fs (off + (szOf P f.type).getD 0) with
    | some k, some r => if f.name ≠ "_" ∧ f.offset = off ∧ szOf P f.type = some k.length then some (k ++ r) else none
    | _, _ => none

/-- The kinds of a type's cells, if they are all bools, integers and strings that are compared in order. -/
def flatAt (P : Program) : Nat → TypeId → Option (List LK)
  | 0, _ => none
  | d + 1, t =>
    match P.underlying t with
    | some .bool => some [.b]
    | some (.int _) => some [.i]
    | some .string => some [.s]
    | some (.array n e) => match flatAt P d e with
      | some k => if szOf P e = some k.length then some (List.replicate n k).flatten else none
      | none => none
    | some (.struct fs) => if P.stoodInHeld t = false then flatFields P (flatAt P d) fs.toList 0 else none
    | _ => none

def eqKind (P : Program) (t : TypeId) : Option EqK :=
  match P.underlying t with
  | some .bool => some .bool
  | some .string => some .string
  | some (.interface _) => some .iface
  | some (.pointer _) => some .ptr
  | some (.slice _) => some .slice
  | some (.func _ _ _) => some .func
  | some (.struct _) | some (.array _ _) => match flatAt P 6 t with
    | some ks => if P.eqGuardType P.depth t = false then some (.flat ks) else none
    | none => none
  | _ => none

/-- A map by integers: its elements' type. -/
def mapE (P : Program) (t : TypeId) : Option TypeId := match P.underlying t with
  | some (.map k e) => match P.underlying k with
    | some (.int .i64) => some e
    | _ => none
  | _ => none

def rOp (P : Program) : Op → Option MOp
  | .move x | .assign x => some (.mv (rX x))
  | .pick c a b => some (.pick (rX c) (rX a) (rX b))
  | .alloc t => (zeroOf P t).map .alloc
  | .box _ x => some (.box (rX x))
  | .load t x => match isAg P t, szOf P t with
    | some true, some n => some (.load true n (rX x))
    | some false, some _ => some (.load false 1 (rX x))
    | _, _ => none
  | .store t x y => match szOf P t with
    | some n => some (.store n (rX x) (rX y))
    | none => none
  | .nilCheck x => some (.nilck (rX x))
  | .binOp op t x y _ =>
    if op = .eql ∨ op = .neq then
      (match P.underlying t with
      | some (.int _) => some (.bin op (rX x) (rX y))
      | _ => match eqKind P t with
        | some .iface => (match y with
          | .const .nilIface => some (.eq (op == .neq) .iface (rX x) (rX y))
          | _ => none)
        | some .slice => (match y with
          | .const (.slice none 0 0) => some (.eq (op == .neq) .slice (rX x) (rX y))
          | _ => none)
        | some .func => (match y with
          | .const .nilFunc => some (.eq (op == .neq) .func (rX x) (rX y))
          | _ => none)
        | some k => some (.eq (op == .neq) k (rX x) (rX y))
        | none => none)
    else some (.bin op (rX x) (rX y))
  | .unOp op _ x => some (.un op (rX x))
  | .convert s d x => match P.underlying s, P.underlying d with
    | some _, some (.int k) => some (.conv k (rX x))
    | _, _ => none
  | .makeInterface t x => match P.underlying t with
    | some (.interface _) => none
    | some _ => some (.mkif t (rX x))
    | none => none
  | .fieldAddr s x f => match P.underlying s with
    | some (.struct fs) => match fs[f]? with
      | some fd => match szOf P fd.type with
        | some n => if 0 < n then some (.faddr fd.offset (rX x)) else none
        | none => none
      | none => none
    | _ => none
  | .field t x f => match P.underlying t with
    | some (.struct fs) => match fs[f]? with
      | some fd => match isAg P fd.type, szOf P fd.type with
        | some ag, some n => some (.fld ag fd.offset n (rX x))
        | _, _ => none
      | none => none
    | _ => none
  | .indexAddr t x i => match P.underlying t with
    | some (.slice e) => match szOf P e with
      | some n => some (.iaddr n (rX x) (rX i))
      | none => none
    | some (.array len e) => match szOf P e with
      | some n => some (.paddr len n (rX x) (rX i))
      | none => none
    | _ => none
  | .index t x i => match P.underlying t with
    | some (.array len e) => match isAg P e, szOf P e with
      | some ag, some n => some (.idx ag len n (rX x) (rX i))
      | _, _ => none
    | _ => none
  | .slice t x lo hi none => match P.underlying t with
    | some (.slice e) => match szOf P e with
      | some n => some (.slc n (rX x) (lo.map rX) (hi.map rX))
      | none => none
    | _ => none
  | .extract x i => some (.ext (rX x) i)
  | .panic _ => some .stop
  | .build t ps => match P.underlying t, zeroOf P t with
    | some (.struct fs), some z => match placesOf P fs.toList with
      | some pl => (rParts (pl[·]?) ps.toList).map (.build z)
      | none => none
    | some (.array _ e), some z => match szOf P e with
      | some n => (rParts (fun i => some (i * n, n)) ps.toList).map (.build z)
      | none => none
    | _, _ => none
  | .buildSlice t n ps => match P.underlying t with
    | some (.slice e) => match szOf P e, zeroOf P e with
      | some sz, some z => if z.length = sz then (rParts (fun i => some (i * sz, sz)) ps.toList).map (.bsl sz n z) else none
      | _, _ => none
    | _ => none
  | .makeSlice t l c => match P.underlying t with
    | some (.slice e) => match P.info? e, zeroOf P e with
      | some i, some z => if z.length = i.size then some (.mks i.size i.bytes z (rX l) (rX c)) else none
      | _, _ => none
    | _ => none
  | .makeFunc (.func f) first cap => if first.size = 0 then some (.mkfn f (cap.toList.map rX)) else none
  | .typeAssert x _ t ok => match P.underlying t, zero1 P t with
    | some (.interface _), _ => none
    | some _, some z => some (.tas t z ok (rX x))
    | _, _ => none
  | .call c => match c.callee with
    | .value f => some (.call (rX f) (c.args.toList.map rX))
    | .builtin .len => match c.args.toList, c.argTypes.toList with
      | [x], [t] => match P.underlying t with
        | some (.slice _) => some (.len (rX x))
        | some .string => some (.slen (rX x))
        | some (.map _ _) => some (.mp (.ln (rX x)))
        | _ => none
      | _, _ => none
    | .builtin .cap => match c.args.toList, c.argTypes.toList with
      | [x], [t] => match P.underlying t with
        | some (.slice _) => some (.cap (rX x))
        | _ => none
      | _, _ => none
    | .builtin .clear => match c.args.toList, c.argTypes.toList with
      | [x], [t] => match P.underlying t with
        | some (.slice e) => match P.info? e, zeroOf P e with
          | some i, some z => if z.length = i.size then some (.clr i.size (rX x)) else none
          | _, _ => none
        | _ => none
      | _, _ => none
    | .builtin .min => some (.mn (c.args.toList.map rX))
    | .builtin .max => some (.mx (c.args.toList.map rX))
    | .builtin .append => match c.args.toList, c.argTypes.toList with
      | [x, y], [t, t'] => match P.underlying t, P.underlying t' with
        | some (.slice e), some (.slice _) => match P.info? e, zeroOf P e with
          | some i, some z => if z.length = i.size ∧ 0 < i.size then some (.app i.size i.bytes (rX x) (rX y)) else none
          | _, _ => none
        | some (.slice e), some (.int _) => match P.info? e, zeroOf P e with
          | some i, some z => if z.length = i.size ∧ 0 < i.size then some (.appz i.size i.bytes (rX x) (rX y)) else none
          | _, _ => none
        | _, _ => none
      | _, _ => none
    | _ => none
  | .makeMap t none => (mapE P t).map fun _ => .mp .mk
  | .lookup t x k ok => match mapE P t with
    | some e => (zeroV P e).map fun z => .mp (.lk ok z (rX x) (rX k))
    | none => none
  | .mapUpdate t x k v => (mapE P t).map fun _ => .mp (.up (rX x) (rX k) (rX v))
  | .mapEntry t x k => match mapE P t with
    | some e => (zeroV P e).map fun z => .mp (.en z (rX x) (rX k))
    | none => none
  | .entryStore t x s v => (mapE P t).map fun _ => .mp (.st (rX x) (rX s) (rX v))
  | .range t x => (mapE P t).map fun _ => .mp (.rg (rX x))
  | .next x false => some (.mp (.nx (rX x)))
  | .entry x => some (.mp (.nt (rX x)))
  | _ => none

/-! ### Code -/
structure MO where
  dst : Option Nat
  op : MOp
  g : Option (Nat × Bool)

inductive MCode where
  | skip
  | reg (ops : List MO)
  | draw (ops : List MO) (pr : List (List Nat))
  | seq (a b : MCode)
  | cond (c : X) (a b : MCode)
  | block (id : Nat) (a : MCode)
  | loop (a : MCode)
  | exit (id : Nat)
  | ret
  deriving Inhabited

def rO (P : Program) (ops : Array Oper) (o : Oper) : Option MO :=
  match rOp P o.op with
  | some m => match o.guard with
    | none => some ⟨o.dst, m, none⟩
    | some (j, want) => match (ops[j]?).bind (·.dst) with
      | some s => some ⟨o.dst, m, some (s, want)⟩
      | none => none
  | none => none

def rOs (P : Program) (ops : Array Oper) : List Oper → Option (List MO)
  | [] => some []
  | o :: r => match rO P ops o, rOs P ops r with
    | some m, some q => some (m :: q)
    | _, _ => none

def predsOf (o : Oper) : List Nat := o.after.toList.filterMap fun e => if Region.binds .any e then some e.on else none

def rC (P : Program) : Code → Option MCode
  | .skip => some .skip
  | .region _ ops d => match rOs P ops ops.toList with
    | some l => if d = true then some (.draw l (ops.toList.map predsOf)) else some (.reg l)
    | none => none
  | .seq a b => match rC P a, rC P b with
    | some x, some y => some (.seq x y)
    | _, _ => none
  | .cond c a b => match rC P a, rC P b with
    | some x, some y => some (.cond (rX c) x y)
    | _, _ => none
  | .block id a => (rC P a).map (.block id)
  | .loop a => (rC P a).map .loop
  | .exit id => some (.exit id)
  | .ret => some .ret
  | _ => none

end Go.W
