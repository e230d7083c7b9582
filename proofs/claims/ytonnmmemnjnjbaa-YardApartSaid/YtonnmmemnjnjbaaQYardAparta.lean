/- The proofs zeB the intermediate form, part QYardAparta. -/
import Derived.WalkKit
import Derived.Laws.CopyRow
import Derived.Conc.LoneSelect
import Derived.Maps.RangeRun
import Derived.Laws.IdiomRangeMap
open Go.IntKind (i64)
set_option linter.unusedVariables false
set_option linter.unusedSimpArgs false
set_option maxRecDepth 100000
namespace Go.Rh
abbrev RL := List (Nat × Value)
def qI : RL → List Value
 | [] => []
 | (n, v) :: r => List.replicate n v ++ qI r
inductive NK where
  | ptr | slc | map | chn
  deriving DecidableEq, Inhabited
inductive LK where
  | b | i | s
  deriving DecidableEq, Inhabited
inductive Opd where
  | t (n : Nat)
  | c (v : Value)
  deriving Inhabited
inductive IOp where
  | mv (x : Opd)
  | pick (c a b : Opd)
  | new (z : RL)
  | box (x : Opd)
  | bld (z : RL) (ps : List (Nat × Nat × Opd))
  | bsl (z : RL) (size len : Nat) (ps : List (Nat × Nat × Opd))
  | ld (n : Option Nat) (a : Opd)
  | st (n : Nat) (a v : Opd)
  | nilc (x : Opd)
  | bin (op : BinOp) (x y : Opd)
  | eqb (neg : Bool) (x y : Opd)
  | eqa (neg : Bool) (ks : List (Nat × LK)) (x y : Opd)
  | eqn (neg : Bool) (ty : NK) (x y : Opd)
  | un (op : UnOp) (x : Opd)
  | cvi (k : IntKind) (x : Opd)
  | cst (x : Opd)
  | csb (x : Opd)
  | cbs (x : Opd)
  | fad (off : Nat) (x : Opd)
  | fld (n : Option Nat) (off : Nat) (x : Opd)
  | iadA (len size : Nat) (x i : Opd)
  | iadS (size : Nat) (x i : Opd)
  | ixA (len size : Nat) (n : Option Nat) (x i : Opd)
  | ixS (x i : Opd)
  | slcA (len size : Nat) (x : Opd) (lo hi mx : Option Opd)
  | slcS (size : Nat) (x : Opd) (lo hi mx : Option Opd)
  | slcT (x : Opd) (lo hi : Option Opd)
  | mks (z : RL) (size bytes : Nat) (l c : Opd)
  | ext (i : Nat) (x : Opd)
  | lenS (x : Opd)
  | lenT (x : Opd)
  | lenM (x : Opd)
  | lenC (x : Opd)
  | app (z : RL) (size bytes : Nat) (s x : Opd)
  | cpy (size : Nat) (d s : Opd)
  | mm (isMax : Bool) (x y : Opd)
  | call (g : String) (args : List Opd)
  | mkm
  | mkc (n : Nat)
  | lku (kt : LK) (z : RL) (agg ok : Bool) (m k : Opd)
  | mup (kt : LK) (m k v : Opd)
  | rng (x : Opd)
  | nxt (x : Opd)
  | ent (x : Opd)
  | snd (c v : Opd)
  | rcv (c : Opd)
  | sel1 (z : RL) (agg : Bool) (c : Opd)
  | bad (why : String)
  deriving Inhabited
structure ICell where
  dst : Option Nat
  op : IOp
  guard : Option (Nat × Bool)
  deriving Inhabited
inductive IC where
  | skip
  | reg (ops : List ICell)
  | dreg (ops : List ICell) (anc : List (List Nat))
  | seq (a b : IC)
  | cond (c : Opd) (a b : IC)
  | block (id : Nat) (b : IC)
  | loop (b : IC)
  | exit (id : Nat)
  | ret
  | label (l : Nat)
  | goto (l : Nat)
  | scp (l : Nat) (rest b : IC)
  | bad (why : String)
  deriving Inhabited
inductive IRes where
  | tmp (t : Nat)
  | cell (a : Nat) (n : Option Nat)
  deriving Inhabited
structure IFunc where
  ntmps : Nat
  res : List IRes
  body : IC
  deriving Inhabited
def IOp.rdl : IOp → List Opd
 | .ld _ a => [a]
 | .st _ a _ => [a]
 | .cbs x => [x]
 | .lenM x => [x]
 | .lenC x => [x]
 | .cpy _ d s => [d, s]
 | .lku _ _ _ _ m _ => [m]
 | .mup _ m _ _ => [m]
 | _ => []
def IOp.opds : IOp → List Opd
 | .mv x | .box x | .ld _ x | .nilc x | .un _ x | .cvi _ x | .cst x | .cbs x | .fad _ x | .fld _ _ x | .ext _ x | .lenS x | .lenT x | .lenM x | .lenC x => [x]
 | .pick c a b => [c, a, b]
 | .bld _ ps => ps.map (·.2.2)
 | .bsl _ _ _ ps => ps.map (·.2.2)
 | .st _ x y | .bin _ x y | .eqb _ x y | .eqa _ _ x y | .eqn _ _ x y | .iadA _ _ x y | .iadS _ x y | .ixA _ _ _ x y | .ixS x y | .mks _ _ _ x y | .cpy _ x y | .mm _ x y | .lku _ _ _ _ x y | .app _ _ _ x y => [x, y]
 | .slcA _ _ x a b c | .slcS _ x a b c => x :: (a.toList ++ b.toList ++ c.toList)
 | .slcT x a b => x :: (a.toList ++ b.toList)
 | .mup _ x y z => [x, y, z]
 | .call _ args => args
 | _ => []
def IOp.makes : IOp → Bool
 | .new _ | .box _ | .bsl .. | .mks .. | .mkm | .mkc _ => true
 | _ => false
def qC : IOp → Nat
 | .call .. => 1
 | .app .. => 2
 | .csb _ => 3
 | .snd .. => 4
 | .rcv _ => 5
 | .sel1 .. => 6
 | .rng _ => 7
 | .nxt _ => 8
 | .ent _ => 9
 | _ => 0
def IOp.quiet (op : IOp) : Bool := Nat.beq (qC op) 0 && !op.makes && op.rdl.isEmpty
def ICell.looks (c : ICell) : List Nat := (match c.guard with
 | some (g, _) => [g]
 | none => []) ++ c.op.opds.filterMap fun x => match x with
 | .t n => some n
 | .c _ => none
def pairOK (x y : ICell) : Bool :=
  ((Nat.ble (qC x.op) 1 && Nat.ble (qC y.op) 1 && !(Nat.beq (qC x.op) 1 && Nat.beq (qC y.op) 1)) ||
    (Nat.beq (qC x.op) 2 && y.op.quiet) || (x.op.quiet && Nat.beq (qC y.op) 2)) &&
  (match x.dst with
   | some d => !(y.looks.any (Nat.beq d)) && (match y.dst with
     | some d' => !(Nat.beq d d')
     | none => true)
   | none => true) &&
  (match y.dst with
   | some d => !(x.looks.any (Nat.beq d))
   | none => true)
def ancs (af : List (List Nat)) : List (List Nat) := af.foldl (fun acc l => acc ++ [(l.flatMap fun p => p :: acc.getD p []).eraseDups]) []
def dchk (cells : List ICell) (af anc : List (List Nat)) : Bool :=
 Nat.beq af.length cells.length && Nat.beq anc.length cells.length &&
 (List.range cells.length).all fun i =>
  (af.getD i []).all (fun p => Nat.blt p i) &&
  (anc.getD i []).all (fun q => Nat.blt q i && ((af.getD i []).any (Nat.beq q) || (af.getD i []).any fun p => (anc.getD p []).any (Nat.beq q))) &&
  (List.range i).all fun j => (anc.getD i []).any (Nat.beq j) || pairOK (cells.getD j default) (cells.getD i default)
def zbz : Value → Bool
 | .bool _ | .int .. | .string _ | .pointer none | .slice none _ _ | .map none | .chan none | .nilFunc | .nilIface => true
 | _ => false
def zi1 : Value → Bool
 | .agg a => a.toList.all zbz
 | v => zbz v
def vpf : Value → Bool
 | .tuple vs => vs.toList.all zi1
 | v => zi1 v
def sameScl : Value → Value → Bool
 | .bool a, .bool b => a == b
 | .int j a, .int k b => j == k && a == b
 | .pointer none, .pointer none => true
 | .slice none a b, .slice none c d => a == c && b == d
 | .map none, .map none => true
 | .chan none, .chan none => true
 | .nilIface, .nilIface => true
 | .nilFunc, .nilFunc => true
 | _, _ => false
def zhU : List Value → RL
 | [] => []
 | v :: r => match zhU r with
  | (n, u) :: q => if sameScl v u then (n + 1, u) :: q else (1, v) :: (n, u) :: q
  | [] => [(1, v)]
def zfR : TypeDesc → Bool
 | .struct _ | .array _ _ => true
 | _ => false
def zfx (P : Program) (t : TypeId) : Option Nat := (P.info? t).map (·.size)
def ldn (P : Program) (t : TypeId) : Option (Option Nat) :=
 match P.underlying t, P.info? t with
 | some d, some i => some (if zfR d then some i.size else none)
 | _, _ => none
def zcE (P : Program) (t : TypeId) : Option RL :=
 match P.info? t with
 | some i => match i.zero with
  | some z => if z.cells.toList.all zbz && z.cells.size == i.size then some (zhU z.cells.toList) else none
  | none => none
 | none => none
def opd : Operand → Option Opd
 | .tmp t => some (.t t)
 | .const v => if vpf v then some (.c v) else none
 | _ => none
def opds : List Operand → Option (List Opd)
 | [] => some []
 | x :: r => match opd x, opds r with
  | some a, some l => some (a :: l)
  | _, _ => none
def opdO : Option Operand → Option (Option Opd)
 | none => some none
 | some x => (opd x).map some
def zjp (P : Program) (L : TypeId → Option (List LK)) (off : Nat) : List Field → Option (List LK)
 | [] => some []
 | f :: fs => match L f.type with
  | some m => if f.name ≠ "_" ∧ f.offset = off ∧ zfx P f.type = some m.length then
    (zjp P L (off + m.length) fs).map (m ++ ·) else none
  | none => none
def zfb (P : Program) : Nat → TypeId → Option (List LK)
 | 0, _ => none
 | d + 1, t =>
  match P.underlying t with
  | some (.bool) => some [.b]
  | some (.int _) => some [.i]
  | some (.string) => some [.s]
  | some (.struct fs) => if P.stoodInHeld t then none else zjp P (zfb P d) 0 fs.toList
  | some (.array len e) => match zfb P d e with
   | some m => if zfx P e = some m.length then some (List.replicate len m).flatten else none
   | none => none
  | _ => none
def packK : List LK → List (Nat × LK)
 | [] => []
 | k :: r => match packK r with
  | (n, u) :: q => if k = u then (n + 1, u) :: q else (1, k) :: (n, u) :: q
  | [] => [(1, k)]
def zcO : List (Nat × LK) → List LK
 | [] => []
 | (n, k) :: r => List.replicate n k ++ zcO r
def zhx (P : Program) (fs : List Field) : Option (List (Nat × Nat)) :=
 fs.mapM fun f => (zfx P f.type).map fun s => (f.offset, s)
def zf8 (pl : Nat → Option (Nat × Nat)) : List (Nat × Operand) → Option (List (Nat × Nat × Opd))
 | [] => some []
 | (i, x) :: r => match pl i, opd x, zf8 pl r with
  | some (o, s), some a, some l => some ((o, s, a) :: l)
  | _, _, _ => none
def O2 (f : Opd → Opd → IOp) (x y : Operand) : IOp := match opd x, opd y with
 | some a, some b => f a b
 | _, _ => .bad "operand"
def O1 (f : Opd → IOp) (x : Operand) : IOp := match opd x with
 | some a => f a
 | _ => .bad "operand"
def cBin (P : Program) (op : BinOp) (t : TypeId) (x y : Operand) : IOp :=
 let neg := op == .neq
 if op == .eql || op == .neq then
  match P.underlying t with
  | some (.int _) | some .string => O2 (.bin op) x y
  | some .bool => O2 (.eqb neg) x y
  | some (.struct _) | some (.array ..) =>
   match zfb P 12 t with
   | some n => if P.eqGuardType P.depth t then .bad "guard" else O2 (.eqa neg (packK n)) x y
   | none => .bad "eq"
  | some (.pointer _) => O2 (.eqn neg .ptr) x y
  | some (.slice _) => O2 (.eqn neg .slc) x y
  | some (.map ..) => O2 (.eqn neg .map) x y
  | some (.chan ..) => O2 (.eqn neg .chn) x y
  | _ => .bad "eq type"
 else match P.underlying t with
  | some (.int _) | some .string => O2 (.bin op) x y
  | _ => .bad "bin type"
def cCall (P : Program) (c : Call) (t : TypeId) : IOp :=
 match c.callee, c.args.toList, c.argTypes.toList with
 | .value (.func f), args, _ =>
  match P.funcs[f]?, opds args with
  | some fn, some l => if fn.body.isSome && fn.name != "runtime.NumGoroutine" then .call fn.name l else .bad ("body-less " ++ fn.name)
  | _, _ => .bad "call"
 | .builtin .len, [x], [t] =>
  match P.underlying t with
  | some (.slice _) => O1 .lenS x
  | some .string => O1 .lenT x
  | some (.map ..) => O1 .lenM x
  | some (.chan ..) => O1 .lenC x
  | _ => .bad "len"
 | .builtin .append, [s, x], [st, xt] =>
  match P.underlying st, P.underlying xt with
  | some (.slice e), some (.slice _) | some (.slice e), some .string =>
   match zfx P e, (P.info? e).map (·.bytes), zcE P e with
   | some n, some b, some z => if b == 0 then .bad "append 0" else O2 (.app z n b) s x
   | _, _, _ => .bad "append"
  | _, _ => .bad "append type"
 | .builtin .copy, [d, s], [dt, st] =>
  match P.underlying dt, P.underlying st with
  | some (.slice e), some (.slice _) | some (.slice e), some .string =>
   match zfx P e with
   | some n => O2 (.cpy n) d s
   | _ => .bad "copy"
  | _, _ => .bad "copy type"
 | .builtin .max, [x, y], _ => match P.underlying t with | some (.int _) => O2 (.mm true) x y | _ => .bad "max"
 | .builtin .min, [x, y], _ => match P.underlying t with | some (.int _) => O2 (.mm false) x y | _ => .bad "min"
 | .builtin b, _, _ => .bad ("builtin " ++ toString (repr b))
 | .invoke _ m, _, _ => .bad ("invoke " ++ m)
 | _, _, _ => .bad "call of a value"
def zhW (P : Program) (t : TypeId) : Bool :=
 match (P.info? t).bind (·.zero) with
 | some (.agg _) => true
 | _ => false
def keyK (P : Program) (t : TypeId) : Option LK :=
 match P.underlying t with
 | some (.int _) => some .i
 | some .string => some .s
 | _ => none
def cOp (P : Program) (o : Oper) : IOp :=
 match o.op with
 | .move x | .assign x => O1 .mv x
 | .pick c a b => match opd c, opd a, opd b with
  | some c, some a, some b => .pick c a b
  | _, _, _ => .bad "pick"
 | .alloc t => match zcE P t with | some z => .new z | none => .bad "alloc"
 | .box _ x => O1 .box x
 | .build t ps => match P.underlying t, zcE P t with
  | some (.struct fs), some z => match zhx P fs.toList with
   | some pl => match zf8 (pl[·]?) ps.toList with
    | some l => .bld z l
    | none => .bad "build parts"
   | none => .bad "build places"
  | some (.array _ e), some z => match zfx P e with
   | some s => match zf8 (fun i => some (i * s, s)) ps.toList with
    | some l => .bld z l
    | none => .bad "build parts"
   | none => .bad "build size"
  | _, _ => .bad "build"
 | .buildSlice t len ps => match P.underlying t with
  | some (.slice e) => match zfx P e, zcE P e with
   | some s, some z => match zf8 (fun i => some (i * s, s)) ps.toList with
    | some l => if s == 0 || len * s > 4096 then .bad "buildSlice 0" else .bsl z s len l
    | none => .bad "buildSlice parts"
   | _, _ => .bad "buildSlice size"
  | _ => .bad "buildSlice type"
 | .load t a => match ldn P t with | some n => O1 (.ld n) a | none => .bad "load"
 | .store t a v => match zfx P t with | some n => O2 (.st n) a v | none => .bad "store"
 | .nilCheck x => O1 .nilc x
 | .binOp op t x y _ => cBin P op t x y
 | .unOp op _ x => O1 (.un op) x
 | .convert s d x => match P.underlying s, P.underlying d with
  | some (.int _), some (.int k) => O1 (.cvi k) x
  | some .string, some .string => O1 .cst x
  | some .string, some (.slice e) => (match P.underlying e with | some (.int .u8) => O1 .csb x | _ => .bad "convert runes")
  | some (.slice e), some .string => (match P.underlying e with | some (.int .u8) => O1 .cbs x | _ => .bad "convert runes")
  | _, _ => .bad "convert"
 | .fieldAddr s x f => match P.underlying s with
  | some (.struct fs) => match fs[f]? with
   | some fd => (match zfx P fd.type with | some (_ + 1) => O1 (.fad fd.offset) x | _ => .bad "fieldAddr 0")
   | none => .bad "fieldAddr"
  | _ => .bad "fieldAddr"
 | .field s x f => match P.underlying s with
  | some (.struct fs) => match fs[f]? with
   | some fd => (match ldn P fd.type with | some n => O1 (.fld n fd.offset) x | none => .bad "field")
   | none => .bad "field"
  | _ => .bad "field"
 | .indexAddr t x i => match P.underlying t with
  | some (.array len e) => (match zfx P e with | some s => O2 (.iadA len s) x i | none => .bad "indexAddr")
  | some (.slice e) => (match zfx P e with | some s => O2 (.iadS s) x i | none => .bad "indexAddr")
  | _ => .bad "indexAddr"
 | .index t x i => match P.underlying t with
  | some (.array len e) => (match zfx P e, ldn P e with | some s, some n => O2 (.ixA len s n) x i | _, _ => .bad "index")
  | some .string => O2 .ixS x i
  | _ => .bad "index"
 | .slice t x lo hi mx => match P.underlying t, opd x, opdO lo, opdO hi, opdO mx with
  | some (.array n e), some x, some lo, some hi, some mx => (match zfx P e with | some s => .slcA n s x lo hi mx | none => .bad "slice")
  | some (.slice e), some x, some lo, some hi, some mx => (match zfx P e with | some s => .slcS s x lo hi mx | none => .bad "slice")
  | some .string, some x, some lo, some hi, some none => .slcT x lo hi
  | _, _, _, _, _ => .bad "slice"
 | .makeSlice t l c => match P.underlying t with
  | some (.slice e) => (match zfx P e, (P.info? e).map (·.bytes), zcE P e with | some s, some b, some z => O2 (.mks z s b) l c | _, _, _ => .bad "makeSlice")
  | _ => .bad "makeSlice"
 | .extract t i => O1 (.ext i) t
 | .makeMap t none => match P.underlying t with
  | some (.map k _) => (match keyK P k with | some _ => .mkm | _ => .bad "map key")
  | _ => .bad "makeMap"
 | .makeChan t (.const (.int .i64 n)) => match P.underlying t with
  | some (.chan _ el) => (match P.info? el with
   | some i => if 0 ≤ n ∧ n < 1000000 ∧ i.bytes * n.toNat ≤ 2 ^ 48 - 112 then .mkc n.toNat else .bad "makeChan"
   | none => .bad "makeChan")
  | _ => .bad "makeChan"
 | .lookup t m k ok => match P.underlying t with
  | some (.map kt e) => (match keyK P kt, zcE P e, ldn P e with
   | some kk, some z, some n => if zhW P e = n.isSome then O2 (.lku kk z n.isSome ok) m k else .bad "lookup"
   | _, _, _ => .bad "lookup")
  | _ => .bad "lookup"
 | .mapUpdate t m k v => match P.underlying t with
  | some (.map kt _) => (match keyK P kt, opd m, opd k, opd v with
   | some kk, some m, some k, some v => .mup kk m k v
   | _, _, _, _ => .bad "mapUpdate")
  | _ => .bad "mapUpdate"
 | .range t x => match P.underlying t with
  | some (.map ..) => O1 .rng x
  | _ => .bad "range"
 | .next x false => O1 .nxt x
 | .send c v => O2 .snd c v
 | .recv t c false => match P.underlying t with
  | some (.chan _ el) => if (zcE P el).isSome then O1 .rcv c else .bad "recv"
  | _ => .bad "recv"
 | .select cs false => match cs.toList with
  | [s] => (match s.send, zcE P s.elem, ldn P s.elem with
   | none, some z, some n => if zhW P s.elem = n.isSome then O1 (.sel1 z n.isSome) s.chan else .bad "select"
   | _, _, _ => .bad "select")
  | _ => .bad "select"
 | .call c => cCall P c o.type
 | .next .. => .bad "next"
 | .makeInterface .. => .bad "makeInterface"
 | .makeFunc .. => .bad "makeFunc"
 | .typeAssert .. => .bad "typeAssert"
 | .insert .. => .bad "insert"
 | .mapEntry .. => .bad "mapEntry"
 | .entryStore .. => .bad "entryStore"
 | .entry x => O1 .ent x
 | .go .. => .bad "go"
 | .defer .. => .bad "defer"
 | .panic .. => .bad "panic"
 | .ready .. => .bad "ready"
 | .waits .. => .bad "waits"
 | .sliceToArrayPointer .. => .bad "sliceToArrayPointer"
 | .makeMap .. => .bad "makeMap"
 | .makeChan .. => .bad "makeChan"
 | .recv .. => .bad "recv"
 | .select .. => .bad "select"
def za6 (P : Program) (ops : Array Oper) (o : Oper) : ICell :=
 match o.guard with
 | none => ⟨o.dst, cOp P o, none⟩
 | some (j, w) => match (ops[j]?).bind (·.dst) with
  | some d => ⟨o.dst, cOp P o, some (d, w)⟩
  | none => ⟨o.dst, .bad "guard", none⟩
def zf6 : IC → List Nat
 | .seq a b => zf6 a ++ zf6 b
 | .label l => [l]
 | _ => []
def zig (l : Nat) : IC → Option IC
 | .seq a b => match zig l a with
  | some r => some (.seq r b)
  | none => zig l b
 | .label l' => if l' = l then some .skip else none
 | _ => none
def mkScope (b : IC) : IC := match zf6 b with
 | [] => b
 | [l] => match zig l b with
  | some r => .scp l r b
  | none => .bad "scope"
 | _ => .bad "labels"
def zce (P : Program) : Code → IC
 | .skip => .skip
 | .region _ ops draw =>
  if draw then (let cells := ops.toList.map (za6 P ops)
   let af := ops.toList.map fun o => (o.after.toList.filter (Region.binds .any)).map (·.on)
   if P.follows .mixedOrders && dchk cells af (ancs af) then .dreg cells (ancs af) else .bad "orders")
  else .reg (ops.toList.map (za6 P ops))
 | .seq a b => .seq (zce P a) (zce P b)
 | .cond c a b => match opd c with
  | some x => .cond x (zce P a) (zce P b)
  | none => .bad "cond"
 | .block id b => .block id (zce P b)
 | .loop b => .loop (zce P b)
 | .exit id => .exit id
 | .scope b => mkScope (zce P b)
 | .ret => .ret
 | .rangeFunc .. => .bad "rangeFunc"
 | .label l => .label l
 | .goto l => .goto l
 | .refuse w => .bad ("refuse " ++ w)
def cRes (P : Program) : List ResultVar → Option (List IRes)
 | [] => some []
 | .tmp t :: r => (cRes P r).map (.tmp t :: ·)
 | .cell a t :: r => match ldn P t, cRes P r with
  | some n, some l => some (.cell a n :: l)
  | _, _ => none
def zeV (n : Nat) (c : ICell) : Bool := match c.dst with
 | some d => decide (d < n)
 | none => true
def wfC (n : Nat) : IC → Bool
 | .reg ops => ops.all (zeV n)
 | .dreg ops _ => ops.all (zeV n)
 | .seq a b => wfC n a && wfC n b
 | .cond _ a b => wfC n a && wfC n b
 | .block _ b => wfC n b
 | .loop b => wfC n b
 | .scp _ r b => wfC n r && wfC n b
 | _ => true
def cFunc (P : Program) (fn : Func) : Option IFunc :=
 match fn.body, cRes P fn.results.toList with
 | some c, some r => if wfC fn.ntmps (zce P c) then some ⟨fn.ntmps, r, zce P c⟩ else none
 | _, _ => none
def zX (P : Program) (g : String) : Option IFunc :=
 match P.funcs.toList.filter (·.name == g) with
 | [fn] => cFunc P fn
 | _ => none
end Go.Rh

namespace Go.Rh
inductive Blk where
  | cells (c : List Value) (rw : Bool)
  | map (es : List (Value × Value))
  | chan (cap : Nat) (buf : List Value)
  | iter (m n : Nat) (seen : List Nat)
  | gone
structure St where
  f : Nat → Value
  h : List Blk
def setf (f : Nat → Value) (d : Nat) (v : Value) : Nat → Value := fun i => if i = d then v else f i
def zas (f : Nat → Value) (d : Option Nat) (v : Value) : Nat → Value := match d with
 | some d => setf f d v
 | none => f
def evf (f : Nat → Value) : Opd → Value
 | .t n => f n
 | .c v => v
inductive Eff where
  | no
  | set (k : Nat) (b : Blk)
  | push (b : Blk)
def Eff.on (h : List Blk) : Eff → List Blk
 | .no => h
 | .set k b => h.set k b
 | .push b => h ++ [b]
def zcN : Value → List Value
 | .agg a => a.toList
 | v => [v]
def junk : Value := .complex .f64 0 0
def zbG : Value → Bool
 | .tuple _ => true
 | .complex _ _ _ => true
 | _ => false
def splice (c : List Value) (o : Nat) (vs : List Value) : List Value := c.take o ++ vs ++ c.drop (o + vs.length)
def zdO (cs : List Value) : List (Nat × Nat × Value) → Option (List Value)
 | [] => some cs
 | (o, s, v) :: r => if zbG v = false ∧ (zcN v).length = s ∧ o + s ≤ cs.length then zdO (splice cs o (zcN v)) r else none
def binI (op : BinOp) (k : IntKind) (a : Int) (k' : IntKind) (b : Int) : Option Value :=
 match op with
 | .shl => if b < 0 then none else some (.int k (k.wrap (a * 2 ^ (min b.toNat k.bits))))
 | .shr => if b < 0 then none else some (.int k (a.fdiv (2 ^ (min b.toNat k.bits))))
 | op => if k ≠ k' then none else match op with
  | .add => some (.int k (k.wrap (a + b)))
  | .sub => some (.int k (k.wrap (a - b)))
  | .mul => some (.int k (k.wrap (a * b)))
  | .quo => if b = 0 then none else some (.int k (k.wrap (a.tdiv b)))
  | .rem => if b = 0 then none else some (.int k (a.tmod b))
  | .and => some (.int k (k.wrap (BitVec.ofInt k.bits a &&& BitVec.ofInt k.bits b).toNat))
  | .or => some (.int k (k.wrap (BitVec.ofInt k.bits a ||| BitVec.ofInt k.bits b).toNat))
  | .xor => some (.int k (k.wrap (BitVec.ofInt k.bits a ^^^ BitVec.ofInt k.bits b).toNat))
  | .andNot => some (.int k (k.wrap (BitVec.ofInt k.bits a &&& ~~~(BitVec.ofInt k.bits b)).toNat))
  | .eql => some (.bool (a == b))
  | .neq => some (.bool (a != b))
  | .lss => some (.bool (decide (a < b)))
  | .leq => some (.bool (decide (a ≤ b)))
  | .gtr => some (.bool (decide (a > b)))
  | .geq => some (.bool (decide (a ≥ b)))
  | _ => none
def binS (op : BinOp) (x y : ByteArray) : Option Value :=
 match op with
 | .add => if ((x.size + y.size : Nat) : Int) > IntKind.i64.max then none else some (.string (x ++ y))
 | .eql => some (.bool (x.toList == y.toList))
 | .neq => some (.bool (!(x.toList == y.toList)))
 | .lss => some (.bool (Op.bytesLess x.toList y.toList))
 | .leq => some (.bool (Op.bytesLess x.toList y.toList || x.toList == y.toList))
 | .gtr => some (.bool (!(Op.bytesLess x.toList y.toList || x.toList == y.toList)))
 | .geq => some (.bool (!Op.bytesLess x.toList y.toList))
 | _ => none
def binV (op : BinOp) : Value → Value → Option Value
 | .int k a, .int k' b => binI op k a k' b
 | .string a, .string b => binS op a b
 | _, _ => none
def eq1K : LK → Value → Value → Option Bool
 | .b, .bool a, .bool b => some (a == b)
 | .i, .int k a, .int k' b => if k = k' then some (a == b) else none
 | .s, .string a, .string b => some (a == b)
 | _, _, _ => none
def eqK : List LK → List Value → List Value → Option Bool
 | [], [], [] => some true
 | k :: ks, a :: x, b :: y => match eq1K k a b, eqK ks x y with
  | some r, some q => some (r && q)
  | _, _ => none
 | _, _, _ => none
def zf9 : NK → Value → Option Bool
 | .ptr, .pointer a => some a.isNone
 | .slc, .slice a _ _ => some a.isNone
 | .map, .map a => some a.isNone
 | .chn, .chan a => some a.isNone
 | _, _ => none
def ziz (ty : NK) (x y : Value) : Option Bool :=
 match zf9 ty x, zf9 ty y with
 | some true, some b => some b
 | some a, some true => some a
 | _, _ => none
def unV : UnOp → Value → Option Value
 | .neg, .int k n => some (.int k (k.wrap (0 - n)))
 | .xor, .int k n => some (.int k (k.wrap (BitVec.ofInt k.bits (if k.signed then -1 else k.max) ^^^ BitVec.ofInt k.bits n).toNat))
 | .not, .bool b => some (.bool !b)
 | _, _ => none
def zam (n : Option Nat) (c : List Value) (o : Nat) : Option Value :=
 match n with
 | none => c[o]?
 | some m => if o + m ≤ c.length then some (.agg ((c.drop o).take m).toArray) else none
def ldV (h : Nat → Option Blk) (n : Option Nat) : Value → Option Value
 | .pointer (some ⟨k, o, none⟩) => match h k with
  | some (.cells c _) => zam n c o
  | _ => none
 | _ => none
def stV (h : Nat → Option Blk) (n : Nat) (v : Value) : Value → Option Eff
 | .pointer (some ⟨k, o, none⟩) => if zbG v then none else match h k with
  | some (.cells c true) => if (zcN v).length = n ∧ o + n ≤ c.length then some (.set k (.cells (splice c o (zcN v)) true)) else none
  | _ => none
 | _ => none
def bnd (y : Nat) : Value → Option Nat
 | .int _ i => if 0 ≤ i ∧ i ≤ y then some i.toNat else none
 | _ => none
def bnds (len cap : Nat) (lo hi mx : Option Value) : Option (Nat × Nat × Nat) :=
 match (match mx with | some v => bnd cap v | none => some cap) with
 | none => none
 | some m => match (match hi, mx with | some v, some _ => bnd m v | some v, none => bnd m v | none, none => some len | none, some _ => none) with
  | none => none
  | some h => match (match lo with | some v => bnd h v | none => some 0) with
   | none => none
   | some l => some (l, h, m)
def addA (a : Addr) (n : Nat) : Addr := ⟨a.block, a.off + n, none⟩
def slcV (size : Nat) (x : Value) (lo hi mx : Option Value) : Option Value :=
 match x with
 | .slice a len cap => match bnds len cap lo hi mx with
  | some (l, h, m) => some (.slice (if m = l then a else a.map (addA · (l * size))) (h - l) (m - l))
  | none => none
 | _ => none
def first (h : Nat → Option Blk) (size n : Nat) : Value → Option (List Value)
 | .slice (some ⟨k, o, none⟩) _ _ => match h k with
  | some (.cells c _) => if o + n * size ≤ c.length then some ((c.drop o).take (n * size)) else none
  | _ => none
 | .slice none _ _ => some []
 | .string s => some ((s.extract 0 n).data.toList.map fun b => .int .u8 b.toNat)
 | _ => none
def lenV : Value → Option Nat
 | .slice _ n _ => some n
 | .string s => some s.size
 | _ => none
def zgp : List Value → Option (List UInt8)
 | [] => some []
 | .int .u8 n :: r => (zgp r).map (UInt8.ofNat n.toNat :: ·)
 | _ :: _ => none
def zdv : LK → Value → Value → Option Bool
 | .i, .int k a, .int k' b => if k = k' then some (a == b) else none
 | .s, .string a, .string b => some (a == b)
 | _, _, _ => none
def ziS (kt : LK) (k : Value) : List (Value × Value) → Option (Option Nat)
 | [] => some none
 | e :: r => match zdv kt k e.1 with
  | some true => some (some 0)
  | some false => match ziS kt k r with
   | some (some i) => some (some (i + 1))
   | some none => some none
   | none => none
  | none => none
def zeroV (z : RL) (agg : Bool) : Option Value :=
 if agg then some (.agg (qI z).toArray) else match qI z with | [v] => some v | _ => none
def zQ (op : IOp) (e : Opd → Value) (h : Nat → Option Blk) (nid : Nat) : Option (Value × Eff) :=
 match op with
 | .mv x => some (e x, .no)
 | .pick c a b => match e c with
  | .bool t => some (if t then e a else e b, .no)
  | _ => none
 | .new z => some (.pointer (some ⟨nid, 0, none⟩), .push (.cells (qI z) true))
 | .box x => if zbG (e x) then none else some (.pointer (some ⟨nid, 0, none⟩), .push (.cells (zcN (e x)) true))
 | .bld z ps => match zdO (qI z) (ps.map fun p => (p.1, p.2.1, e p.2.2)) with
  | some c => some (.agg c.toArray, .no)
  | none => none
 | .bsl z _ len ps => match zdO (List.replicate len (qI z)).flatten (ps.map fun p => (p.1, p.2.1, e p.2.2)) with
  | some c => some (.slice (some ⟨nid, 0, none⟩) len len, .push (.cells c true))
  | none => none
 | .ld n a => match ldV h n (e a) with
  | some v => some (v, .no)
  | none => none
 | .st n a v => match stV h n (e v) (e a) with
  | some f => some (undef, f)
  | none => none
 | .nilc x => match e x with
  | .pointer (some a) => some (.pointer (some a), .no)
  | _ => none
 | .bin op x y => match binV op (e x) (e y) with
  | some v => some (v, .no)
  | none => none
 | .eqb neg x y => match e x, e y with
  | .bool a, .bool b => some (.bool (if neg then a != b else a == b), .no)
  | _, _ => none
 | .eqa neg ks x y => match e x, e y with
  | .agg a, .agg b => match eqK (zcO ks) a.toList b.toList with
   | some r => some (.bool (if neg then !r else r), .no)
   | none => none
  | _, _ => none
 | .eqn neg ty x y => match ziz ty (e x) (e y) with
  | some r => some (.bool (if neg then !r else r), .no)
  | none => none
 | .un op x => match unV op (e x) with
  | some v => some (v, .no)
  | none => none
 | .cvi k x => match e x with
  | .int _ n => some (.int k (k.wrap n), .no)
  | _ => none
 | .cst x => match e x with
  | .string s => some (.string s, .no)
  | _ => none
 | .cbs x => match e x with
  | .slice none _ _ => some (.string .empty, .no)
  | .slice (some ⟨k, o, none⟩) len cap => match first h 1 len (.slice (some ⟨k, o, none⟩) len cap) with
   | some c => match zgp c with
    | some l => some (.string ⟨l.toArray⟩, .no)
    | none => none
   | none => none
  | _ => none
 | .fad off x => match e x with
  | .pointer (some ⟨k, o, none⟩) => some (.pointer (some ⟨k, o + off, none⟩), .no)
  | _ => none
 | .fld n off x => match e x with
  | .agg a => match zam n a.toList off with
   | some v => some (v, .no)
   | none => none
  | _ => none
 | .iadA len size x i => match e x, e i with
  | .pointer (some ⟨k, o, none⟩), .int _ i => if 0 ≤ i ∧ i < len then some (.pointer (some ⟨k, o + i.toNat * size, none⟩), .no) else none
  | _, _ => none
 | .iadS size x i => match e x, e i with
  | .slice (some ⟨k, o, none⟩) len _, .int _ i => if 0 ≤ i ∧ i < len then some (.pointer (some ⟨k, o + i.toNat * size, none⟩), .no) else none
  | _, _ => none
 | .ixA len size n x i => match e x, e i with
  | .agg a, .int _ i => if 0 ≤ i ∧ i < len then (match zam n a.toList (i.toNat * size) with
   | some v => some (v, .no)
   | none => none) else none
  | _, _ => none
 | .ixS x i => match e x, e i with
  | .string s, .int _ i => if 0 ≤ i then (match s[i.toNat]? with
   | some b => some (.int .u8 b.toNat, .no)
   | none => none) else none
  | _, _ => none
 | .slcA len size x lo hi mx => match e x with
  | .pointer (some ⟨k, o, none⟩) => match slcV size (.slice (some ⟨k, o, none⟩) len len) (lo.map e) (hi.map e) (mx.map e) with
   | some v => some (v, .no)
   | none => none
  | _ => none
 | .slcS size x lo hi mx => match slcV size (e x) (lo.map e) (hi.map e) (mx.map e) with
  | some v => some (v, .no)
  | none => none
 | .slcT x lo hi => match e x with
  | .string s => match bnds s.size s.size (lo.map e) (hi.map e) none with
   | some (l, h, _) => some (.string (s.extract l h), .no)
   | none => none
  | _ => none
 | .mks z _ bytes l c => match e l, e c with
  | .int _ l, .int _ c => if 0 ≤ l ∧ l ≤ c ∧ bytes * c ≤ 2 ^ 48 ∧ c ≤ 2 ^ 48 then
    some (.slice (some ⟨nid, 0, none⟩) l.toNat c.toNat, .push (.cells (List.replicate c.toNat (qI z)).flatten true)) else none
  | _, _ => none
 | .ext i x => match e x with
  | .tuple vs => match vs[i]? with
   | some v => some (v, .no)
   | none => none
  | _ => none
 | .lenS x => match e x with
  | .slice _ n _ => some (.int .i64 n, .no)
  | _ => none
 | .lenT x => match e x with
  | .string s => some (.int .i64 s.size, .no)
  | _ => none
 | .lenM x => match e x with
  | .map none => some (.int .i64 0, .no)
  | .map (some r) => match h r with
   | some (.map es) => some (.int .i64 es.length, .no)
   | _ => none
  | _ => none
 | .lenC x => match e x with
  | .chan (some r) => match h r with
   | some (.chan _ b) => some (.int .i64 b.length, .no)
   | _ => none
  | _ => none
 | .cpy size d s => match e d, lenV (e s) with
  | .slice a dl _, some sl => match first h size (min sl dl) (e s) with
   | some c => match a with
    | some ⟨k, o, none⟩ => match h k with
     | some (.cells old true) => if o + c.length ≤ old.length then some (.int .i64 (min sl dl : Nat), .set k (.cells (splice old o c) true)) else none
     | _ => none
    | none => some (.int .i64 (min sl dl : Nat), .no)
    | _ => none
   | none => none
  | _, _ => none
 | .mm isMax x y => match e x, e y with
  | .int k a, .int _ b => some (.int k (if isMax then (if b > a then b else a) else (if b < a then b else a)), .no)
  | _, _ => none
 | .mkm => some (.map (some nid), .push (.map []))
 | .mkc n => some (.chan (some nid), .push (.chan n []))
 | .lku kt z agg ok m k => match zeroV z agg with
  | some zv => match e m with
   | .map none => some (if ok then .tuple #[zv, .bool false] else zv, .no)
   | .map (some r) => match h r with
    | some (.map es) => match ziS kt (e k) es with
     | some (some i) => match es[i]? with
      | some x => some (if ok then .tuple #[x.2, .bool true] else x.2, .no)
      | none => none
     | some none => some (if ok then .tuple #[zv, .bool false] else zv, .no)
     | none => none
    | _ => none
   | _ => none
  | none => none
 | .mup kt m k v => if zbG (e v) then none else match e m with
  | .map (some r) => match h r with
   | some (.map es) => match ziS kt (e k) es with
    | some (some i) => some (undef, .set r (.map (es.set i (e k, e v))))
    | some none => if zbG (e k) then none else some (undef, .set r (.map (es ++ [(e k, e v)])))
    | none => none
   | _ => none
  | _ => none
 | _ => none
def zbZ : Value → List Nat
 | .pointer (some a) => [a.block]
 | .slice (some a) _ _ => [a.block]
 | .map (some r) => [r]
 | .chan (some r) => [r]
 | _ => []
def rdE (op : IOp) (e : Opd → Value) : List Nat := op.rdl.flatMap fun x => zbZ (e x)
abbrev qW := String → List Value → List Blk → (Value → List Blk → Prop) → Prop
def renA (ρ : Nat → Nat) (a : Addr) : Addr := ⟨ρ a.block, a.off, a.spot⟩
def zet (ρ : Nat → Nat) : Value → Value
 | .pointer (some a) => .pointer (some (renA ρ a))
 | .slice (some a) l c => .slice (some (renA ρ a)) l c
 | .map (some r) => .map (some (ρ r))
 | .chan (some r) => .chan (some (ρ r))
 | v => v
def zfX (ρ : Nat → Nat) : Value → Value
 | .agg a => .agg (a.map (zet ρ))
 | v => zet ρ v
def zbw (ρ : Nat → Nat) : Value → Value
 | .tuple vs => .tuple (vs.map (zfX ρ))
 | v => zfX ρ v
def zaR (ρ : Nat → Nat) : Blk → Blk
 | .cells c rw => .cells (c.map (zet ρ)) rw
 | .map es => .map (es.map fun e => (zfX ρ e.1, zfX ρ e.2))
 | .chan n b => .chan n (b.map (zfX ρ))
 | .iter m n seen => .iter (ρ m) n seen
 | .gone => .gone
def rho (sel : List Nat) (n : Nat) (i : Nat) : Nat := match sel[i]? with
 | some k => k
 | none => n + (i - sel.length)
def Blk.seen : Blk → Blk → Prop
 | .cells c rw, .cells c' rw' => c = c' ∧ (rw = true → rw' = true)
 | .gone, _ => False
 | a, b => a = b
def Blk.sees (a b : Blk) : Prop := Blk.seen a b ∨ a = .gone ∧ b = .gone
def Blk.hid (a b : Blk) : Prop := a = .cells [] false ∧ ∃ c rw, b = .cells c rw
def Blk.view (a b : Blk) : Prop := Blk.sees a b ∨ Blk.hid a b
def Blk.rw : Blk → Bool
 | .cells _ r => r
 | _ => true
def zeB (k : Nat) : List Nat → List Blk → Option Blk
 | s :: ss, b :: bs => if s = k ∧ b.rw = true then some b else zeB k ss bs
 | _, _ => none
def zdK (h : List Blk) (sel : List Nat) (h1 : List Blk) (ρ : Nat → Nat) : List Blk :=
 (h.mapIdx fun k b => match zeB k sel h1 with
  | some b' => zaR ρ b'
  | none => b) ++ (h1.drop sel.length).map (zaR ρ)
end Go.Rh

namespace Go.Rh
abbrev Phi := Nat → Option (Nat × Nat)
def AddrR (φ : Phi) (a a' : Addr) : Prop := a.spot = none ∧ ∃ b o, φ a.block = some (b, o) ∧ a' = ⟨b, o + a.off, none⟩
def SR (φ : Phi) : Value → Value → Prop
 | .pointer (some a), v' => ∃ a', v' = .pointer (some a') ∧ AddrR φ a a'
 | .slice (some a) l c, v' => ∃ a', v' = .slice (some a') l c ∧ AddrR φ a a'
 | .map (some r), v' => ∃ b, v' = .map (some b) ∧ φ r = some (b, 0)
 | .chan (some r), v' => ∃ b, v' = .chan (some b) ∧ φ r = some (b, 0)
 | v, v' => zbz v = true ∧ v' = v
def Each (R : Value → Value → Prop) (l l' : List Value) : Prop := l.length = l'.length ∧ ∀ (i : Nat) v v', l[i]? = some v → l'[i]? = some v' → R v v'
def GR (φ : Phi) : Value → Value → Prop
 | .agg a, v' => ∃ a' : Array Value, v' = .agg a' ∧ Each (SR φ) a.toList a'.toList
 | v, v' => SR φ v v'
def VR (φ : Phi) : Value → Value → Prop
 | .tuple vs, v' => ∃ vs' : Array Value, v' = .tuple vs' ∧ Each (GR φ) vs.toList vs'.toList
 | .complex _ _ _, _ => True
 | v, v' => GR φ v v'
def Le (φ φ' : Phi) : Prop := ∀ k x, φ k = some x → φ' k = some x
theorem Le.refl (φ : Phi) : Le φ φ := fun _ _ h => h
theorem Le.trans {φ φ' φ'' : Phi} (h : Le φ φ') (k : Le φ' φ'') : Le φ φ'' := fun _ _ e => k _ _ (h _ _ e)
theorem Each.nil (R) : Each R [] [] := ⟨rfl, by simp⟩
theorem Each.mono {R R' : Value → Value → Prop} {l l' : List Value} (hR : ∀ v v', R v v' → R' v v') (h : Each R l l') : Each R' l l' := ⟨h.1, fun i v v' a b => hR _ _ (h.2 i v v' a b)⟩
theorem Each.get {R} {l l' : List Value} (h : Each R l l') {i : Nat} {v : Value} (hv : l[i]? = some v) : ∃ v', l'[i]? = some v' ∧ R v v' := by
 have hi : i < l.length := by
  rcases Nat.lt_or_ge i l.length with h | h
  ·exact h
  ·simp [List.getElem?_eq_none h] at hv
 have hi' : i < l'.length := h.1 ▸ hi
 exact ⟨l'[i], by simp [hi'], h.2 i v _ hv (by simp [hi'])⟩
theorem Each.cons {R} {v v' : Value} {l l' : List Value} (h : R v v') (hl : Each R l l') : Each R (v :: l) (v' :: l') := by
 refine ⟨by simp [hl.1], fun i => ?_⟩
 cases i with
 | zero => intro a b ha hb; simp at ha hb; subst ha; subst hb; exact h
 | succ i => simpa using hl.2 i
theorem Each.head {R} {v v' : Value} {l l' : List Value} (h : Each R (v :: l) (v' :: l')) : R v v' := h.2 0 v v' rfl rfl
theorem Each.tail {R} {v v' : Value} {l l' : List Value} (h : Each R (v :: l) (v' :: l')) : Each R l l' := ⟨by have := h.1; simpa using this, fun i a b ha hb => h.2 (i + 1) a b (by simpa using ha) (by simpa using hb)⟩
theorem Each.take {R} {l l' : List Value} (h : Each R l l') (n : Nat) : Each R (l.take n) (l'.take n) := by
 refine ⟨by simp [h.1], fun i v v' a b => ?_⟩
 rw [List.getElem?_take] at a b
 split at a <;> simp_all
 exact h.2 i v v' a b
theorem Each.drop {R} {l l' : List Value} (h : Each R l l') (n : Nat) : Each R (l.drop n) (l'.drop n) := by
 refine ⟨by simp [h.1], fun i v v' a b => ?_⟩
 rw [List.getElem?_drop] at a b
 exact h.2 _ v v' a b
theorem Each.append {R} {l l' m m' : List Value} (h : Each R l l') (k : Each R m m') : Each R (l ++ m) (l' ++ m') := by
 refine ⟨by simp [h.1, k.1], fun i v v' a b => ?_⟩
 rw [List.getElem?_append] at a b
 rw [h.1] at a
 split at a
 ·rename_i hlt; rw [if_pos hlt] at b; exact h.2 i v v' a b
 ·rename_i hlt; rw [if_neg hlt] at b; exact k.2 _ v v' a b
theorem Each.splice {R} {l l' m m' : List Value} (h : Each R l l') (k : Each R m m') (o : Nat) : Each R (splice l o m) (splice l' o m') := by
 unfold Go.Rh.splice
 rw [← k.1]
 exact ((h.take o).append k).append (h.drop _)
theorem Each.all {R} {l l' : List Value} (h : Each R l l') {p : Value → Prop} (hp : ∀ v v', R v v' → p v') : ∀ v' ∈ l', p v' := by
 intro v' hv'
 obtain ⟨i, hi, rfl⟩ := List.mem_iff_getElem.1 hv'
 have hi' : i < l.length := by rw [h.1]; exact hi
 exact hp _ _ (h.2 i l[i] l'[i] (by simp [hi']) (by simp [hi]))
theorem Each.replicate {R} {v v' : Value} (h : R v v') (n : Nat) : Each R (List.replicate n v) (List.replicate n v') := by
 refine ⟨by simp, fun i a b ha hb => ?_⟩
 rw [List.getElem?_replicate] at ha hb
 split at ha <;> simp_all
theorem Each.refl_of {R : Value → Value → Prop} {l : List Value} (h : ∀ v ∈ l, R v v) : Each R l l :=
 ⟨rfl, fun i v v' a b => by rw [a] at b; cases b; exact h v (List.mem_of_getElem? a)⟩
theorem Each.set {R} {l l' : List Value} (h : Each R l l') {v v' : Value} (hv : R v v') (o : Nat) : Each R (l.set o v) (l'.set o v') := by
 refine ⟨by simp [h.1], fun i a b ha hb => ?_⟩
 rw [List.getElem?_set] at ha hb
 rw [h.1] at ha
 split at ha
 ·rename_i e; rw [if_pos e] at hb; split at ha
  ·rename_i hlt; rw [if_pos hlt] at hb; cases ha; cases hb; exact hv
  ·cases ha
 ·rename_i e; rw [if_neg e] at hb; exact h.2 i a b ha hb
theorem AddrR.mono {φ φ' : Phi} (h : Le φ φ') {a a' : Addr} : AddrR φ a a' → AddrR φ' a a' := fun ⟨x, b, o, y, z⟩ => ⟨x, b, o, h _ _ y, z⟩
theorem SR.mono {φ φ' : Phi} (h : Le φ φ') {v v' : Value} (r : SR φ v v') : SR φ' v v' := by
 unfold SR at *
 split at r
 ·obtain ⟨a', rfl, r⟩ := r; exact ⟨a', rfl, r.mono h⟩
 ·obtain ⟨a', rfl, r⟩ := r; exact ⟨a', rfl, r.mono h⟩
 ·obtain ⟨a', rfl, r⟩ := r; exact ⟨a', rfl, h _ _ r⟩
 ·obtain ⟨a', rfl, r⟩ := r; exact ⟨a', rfl, h _ _ r⟩
 ·exact r
theorem GR.mono {φ φ' : Phi} (h : Le φ φ') {v v' : Value} (r : GR φ v v') : GR φ' v v' := by
 cases v <;> simp only [GR] at r ⊢ <;> first | exact SR.mono h r | (obtain ⟨a', rfl, r⟩ := r; exact ⟨a', rfl, r.mono fun _ _ => SR.mono h⟩)
theorem VR.mono {φ φ' : Phi} (h : Le φ φ') {v v' : Value} (r : VR φ v v') : VR φ' v v' := by
 cases v <;> simp only [VR] at r ⊢ <;> first | trivial | exact GR.mono h r | (obtain ⟨a', rfl, r⟩ := r; exact ⟨a', rfl, r.mono fun _ _ => GR.mono h⟩)
theorem GR.of_SR {φ : Phi} {v v' : Value} (r : SR φ v v') : GR φ v v' := by
 cases v <;> simp only [GR] <;> first | exact r | (simp [SR, zbz] at r)
theorem VR.of_GR {φ : Phi} {v v' : Value} (r : GR φ v v') : VR φ v v' := by
 cases v <;> simp only [VR] <;> first | trivial | exact r | (simp [GR, SR, zbz] at r)
theorem GR.of_VR {φ : Phi} {v v' : Value} (ht : zbG v = false) (r : VR φ v v') : GR φ v v' := by
 cases v <;> simp only [VR, zbG] at r ht <;> first | exact r | cases ht
theorem SR.of_sclf {φ : Phi} {v : Value} (h : zbz v = true) : SR φ v v := by
 unfold SR; split <;> simp_all [zbz]
theorem GR.of_aggf {φ : Phi} {v : Value} (h : zi1 v = true) : GR φ v v := by
 cases v <;> simp only [GR, zi1] at h ⊢ <;> first | exact SR.of_sclf h | exact ⟨_, rfl, Each.refl_of fun v hv => SR.of_sclf (List.all_eq_true.1 h v hv)⟩
theorem VR.of_vpf {φ : Phi} {v : Value} (h : vpf v = true) : VR φ v v := by
 cases v <;> simp only [VR, vpf] at h ⊢ <;> first | trivial | exact GR.of_aggf h | exact ⟨_, rfl, Each.refl_of fun v hv => GR.of_aggf (List.all_eq_true.1 h v hv)⟩
theorem SR.eq_of_sclf {φ : Phi} {v v' : Value} (h : zbz v = true) (r : SR φ v v') : v' = v := by
 unfold SR at r; split at r <;> simp_all [zbz]
theorem SR.one {φ : Phi} {v v' : Value} (r : SR φ v v') : v'.oneCell' = true := by
 unfold SR at r
 split at r
 ·obtain ⟨a', rfl, _⟩ := r; rfl
 ·obtain ⟨a', rfl, _⟩ := r; rfl
 ·obtain ⟨a', rfl, _⟩ := r; rfl
 ·obtain ⟨a', rfl, _⟩ := r; rfl
 ·obtain ⟨h, rfl⟩ := r
  cases v' <;> simp_all [zbz, Value.oneCell']
theorem GR.cells {φ : Phi} {v v' : Value} (r : GR φ v v') : Each (SR φ) (zcN v) v'.cells.toList := by
 cases v <;> simp only [GR] at r
 case agg a => obtain ⟨a', rfl, r⟩ := r; exact r
 all_goals
  have hc : v'.cells = #[v'] := by have := r.one; cases v' <;> simp_all [Value.oneCell', Value.cells]
  rw [hc]; exact Each.cons r (Each.nil _)
def BR (φ : Phi) (w : World) (b o : Nat) : Blk → Prop
 | .cells c rw => ∃ c' T fr, w.heap[b]? = some (.cells c' T fr) ∧ o + c.length ≤ c'.size ∧ Each (SR φ) c ((c'.toList.drop o).take c.length) ∧
   (rw = true → o = 0 ∧ c'.size = c.length ∧ ∀ i, i < c'.size → ¬ (fr.1 ≤ i ∧ i < fr.2))
 | .map es => o = 0 ∧ ∃ ms clock, w.heap[b]? = some (.map ms clock) ∧ Each (GR φ) (es.map (·.1)) (ms.toList.map (·.key)) ∧ Each (GR φ) (es.map (·.2)) (ms.toList.map (·.val)) ∧
   ms.toList.map (·.born) = List.range ms.size ∧ clock = ms.size
 | .chan cap buf => o = 0 ∧ ∃ buf' s r, w.heap[b]? = some (.chan cap buf' false s r false) ∧ Each (GR φ) buf buf'.toList
 | .iter m n seen => o = 0 ∧ ∃ bm, φ m = some (bm, 0) ∧ w.heap[b]? = some (.mapIter (some bm) n seen.toArray n)
 | .gone => False
structure HR (φ : Phi) (h : Nat → Option Blk) (w : World) : Prop where
  has : ∀ k blk, h k = some blk → ∃ b o, φ k = some (b, o) ∧ BR φ w b o blk
  nil : ∀ k, h k = none → φ k = none
  apart : ∀ k k' blk b o b' o', k ≠ k' → h k = some blk → blk.rw = true → φ k = some (b, o) → φ k' = some (b', o') → b ≠ b'
theorem BR.mono {φ φ' : Phi} (hl : Le φ φ') {w : World} {b o : Nat} {blk : Blk} (h : BR φ w b o blk) : BR φ' w b o blk := by
 cases blk with
 | cells c rw => obtain ⟨c', T, fr, h1, h2, h3, h4⟩ := h; exact ⟨c', T, fr, h1, h2, h3.mono fun _ _ => SR.mono hl, h4⟩
 | map es => obtain ⟨h0, ms, cl, h1, h2, h3, h4, h5⟩ := h; exact ⟨h0, ms, cl, h1, h2.mono fun _ _ => GR.mono hl, h3.mono fun _ _ => GR.mono hl, h4, h5⟩
 | chan n bf => obtain ⟨h0, b', s, r, h1, h2⟩ := h; exact ⟨h0, b', s, r, h1, h2.mono fun _ _ => GR.mono hl⟩
 | iter m n seen => obtain ⟨h0, bm, h1, h2⟩ := h; exact ⟨h0, bm, hl _ _ h1, h2⟩
 | gone => exact h.elim
theorem BR.congr {φ : Phi} {w w' : World} {b o : Nat} {blk : Blk} (e : w'.heap[b]? = w.heap[b]?) (h : BR φ w b o blk) : BR φ w' b o blk := by
 cases blk <;> simp only [BR] at h ⊢ <;> rw [e] <;> exact h
theorem BR.lt {φ : Phi} {w : World} {b o : Nat} {blk : Blk} (h : BR φ w b o blk) : b < w.heap.size := by
 have : ∃ x, w.heap[b]? = some x := by
  cases blk with
  | cells c rw => obtain ⟨c', T, fr, h1, _⟩ := h; exact ⟨_, h1⟩
  | map es => obtain ⟨h0, ms, cl, h1, _⟩ := h; exact ⟨_, h1⟩
  | chan n bf => obtain ⟨h0, b', s, r, h1, _⟩ := h; exact ⟨_, h1⟩
  | iter m n seen => obtain ⟨h0, bm, h1, h2⟩ := h; exact ⟨_, h2⟩
  | gone => exact h.elim
 obtain ⟨x, hx⟩ := this
 rcases Nat.lt_or_ge b w.heap.size with h | h
 ·exact h
 ·simp [Array.getElem?_eq_none h] at hx
theorem HR.lt {φ : Phi} {h : Nat → Option Blk} {w : World} (H : HR φ h w) {k b o : Nat} (e : φ k = some (b, o)) : b < w.heap.size := by
 cases hk : h k with
 | none => rw [H.nil k hk] at e; cases e
 | some blk =>
  obtain ⟨b1, o1, e1, r⟩ := H.has k blk hk
  rw [e] at e1; cases e1
  exact r.lt
def zdZ {α : Type} (h : Nat → Option α) (k : Nat) (b : α) : Nat → Option α := fun j => if j = k then some b else h j
def Eff.onF (h : Nat → Option Blk) (nid : Nat) : Eff → Nat → Option Blk
 | .no => h
 | .set k b => zdZ h k b
 | .push b => zdZ h nid b
theorem Le.upd {φ : Phi} {n : Nat} (hn : φ n = none) (x : Nat × Nat) : Le φ (zdZ φ n x) := by
 intro k y e
 unfold zdZ
 split
 ·rename_i h; subst h; rw [hn] at e; cases e
 ·exact e
structure Fr (φ : Phi) (h : Nat → Option Blk) (w : World) (φ' : Phi) (h' : Nat → Option Blk) (w' : World) : Prop where
  size : w.heap.size ≤ w'.heap.size
  keep : ∀ b, b < w.heap.size → (∀ k blk o, h k = some blk → blk.rw = true → φ k ≠ some (b, o)) → w'.heap[b]? = w.heap[b]?
  os : w'.os = w.os
  tape : w'.tape = w.tape
  output : w'.output = w.output
  le : Le φ φ'
  new : ∀ k b o, φ' k = some (b, o) → φ k = some (b, o) ∨ w.heap.size ≤ b
  own : ∀ k blk, h' k = some blk → blk.rw = true → (∃ blk0, h k = some blk0 ∧ blk0.rw = true) ∨ h k = none
  flags : ∀ k b b', h k = some b → h' k = some b' → b'.rw = b.rw
theorem Fr.same (φ : Phi) (h : Nat → Option Blk) (w : World) : Fr φ h w φ h w :=
 ⟨Nat.le_refl _, fun _ _ _ => rfl, rfl, rfl, rfl, Le.refl _, fun _ _ _ e => .inl e, fun k blk e r => .inl ⟨blk, e, r⟩, fun _ _ _ h1 h2 => by rw [h1] at h2; cases h2; rfl⟩
theorem HR.push {φ : Phi} {h : Nat → Option Blk} {w : World} (H : HR φ h w) {n : Nat} (hn : h n = none) (obj : Obj) (blk : Blk)
  (hb : BR (zdZ φ n (w.heap.size, 0)) (w.alloc obj) w.heap.size 0 blk) :
  HR (zdZ φ n (w.heap.size, 0)) (zdZ h n blk) (w.alloc obj) ∧ Fr φ h w (zdZ φ n (w.heap.size, 0)) (zdZ h n blk) (w.alloc obj) := by
 have hφ := H.nil n hn
 refine ⟨⟨?_, ?_, ?_⟩, ?_⟩
 ·intro k b e
  unfold zdZ at e ⊢
  by_cases hk : k = n
  ·subst hk; simp at e ⊢; subst e; exact ⟨_, _, ⟨rfl, rfl⟩, hb⟩
  ·simp [hk] at e ⊢
   obtain ⟨b', o', e', r⟩ := H.has k b e
   refine ⟨b', o', e', (r.congr ?_).mono (Le.upd hφ _)⟩
   exact Go.RowKit.Below.heap_alloc w obj b' r.lt
 ·intro k e
  unfold zdZ at e ⊢
  by_cases hk : k = n
  ·simp [hk] at e
  ·simp [hk] at e ⊢; exact H.nil k e
 ·intro k k' b b1 o1 b2 o2 hne e hrw e1 e2
  unfold zdZ at e e1 e2
  by_cases hk : k = n
  ·subst hk
   have hk' : ¬ k' = k := fun h => hne h.symm
   simp at e1; simp [hk'] at e2
   have := H.lt e2
   omega
  ·simp [hk] at e e1
   by_cases hk' : k' = n
   ·subst hk'; simp at e2; have := H.lt e1; omega
   ·simp [hk'] at e2; exact H.apart k k' b b1 o1 b2 o2 hne e hrw e1 e2
 ·refine ⟨by simp, fun b hb _ => Go.RowKit.Below.heap_alloc w obj b hb, rfl, rfl, rfl, Le.upd hφ _, ?_, ?_, ?_⟩
  ·intro k b o e
   unfold zdZ at e
   split at e
   ·cases e; exact .inr (Nat.le_refl _)
   ·exact .inl e
  ·intro k b e r
   unfold zdZ at e
   split at e
   ·rename_i hk; subst hk; exact .inr hn
   ·exact .inl ⟨b, e, r⟩
  ·intro k b b' h1 h2
   unfold zdZ at h2
   split at h2
   ·rename_i hk; subst hk; rw [hn] at h1; cases h1
   ·rw [h1] at h2; cases h2; rfl
theorem HR.set {φ : Phi} {h : Nat → Option Blk} {w : World} (H : HR φ h w) {k : Nat} {blk blk' : Blk} {b o : Nat} {w' : World} (hk : h k = some blk) (hrw : blk.rw = true) (hφ : φ k = some (b, o))
  (hb : BR φ w' b o blk') (hrw' : blk'.rw = true) (hs : w'.heap.size = w.heap.size) (ho : ∀ j, j ≠ b → w'.heap[j]? = w.heap[j]?) (h1 : w'.os = w.os) (h2 : w'.tape = w.tape) (h3 : w'.output = w.output) :
  HR φ (zdZ h k blk') w' ∧ Fr φ h w φ (zdZ h k blk') w' := by
 refine ⟨⟨?_, ?_, ?_⟩, ?_⟩
 ·intro j bj e
  unfold zdZ at e
  split at e
  ·rename_i hj; subst hj; cases e; exact ⟨b, o, hφ, hb⟩
  ·rename_i hj
   obtain ⟨b', o', e', r⟩ := H.has j bj e
   exact ⟨b', o', e', r.congr (ho _ (H.apart k j blk b o b' o' (fun e => hj e.symm) hk hrw hφ e').symm)⟩
 ·intro j e
  unfold zdZ at e
  split at e
  ·cases e
  ·exact H.nil j e
 ·intro j j' bj b1 o1 b2 o2 hne e hr e1 e2
  unfold zdZ at e
  split at e
  ·rename_i hj; subst hj; exact H.apart j j' blk b1 o1 b2 o2 hne hk hrw e1 e2
  ·exact H.apart j j' bj b1 o1 b2 o2 hne e hr e1 e2
 ·refine ⟨by omega, fun j _ hx => ho j fun e => hx k blk o hk hrw (e ▸ hφ), h1, h2, h3, Le.refl _, fun _ _ _ e => .inl e, ?_, ?_⟩
  rotate_left
  ·intro j b1 b2 e1 e2
   unfold zdZ at e2
   split at e2
   ·rename_i hj; subst hj; rw [hk] at e1; cases e1; cases e2; rw [hrw, hrw']
   ·rw [e1] at e2; cases e2; rfl
  intro j bj e r
  unfold zdZ at e
  split at e
  ·rename_i hj; subst hj; exact .inl ⟨blk, hk, hrw⟩
  ·exact .inl ⟨bj, e, r⟩
end Go.Rh

namespace Go.Rh
def Runs (P : Program) (o : Oper) (a : Act) (w : World) (v' : Value) (w' : World) : Prop :=
 (execOp a.eval o).run P w = .ok (.value v') w' ∨ ((execOp a.eval o).run P w = .ok .skip w' ∧ v' = undef)
def Does (P : Program) (o : Oper) (a : Act) (w : World) (φ : Phi) (h : Nat → Option Blk) (n : Nat) (v : Value) (f : Eff) : Prop :=
 ∃ φ' v' w', Runs P o a w v' w' ∧ VR φ' v v' ∧ HR φ' (f.onF h n) w' ∧ Fr φ h w φ' (f.onF h n) w'
section
variable {P : Program} {o : Oper} {a : Act} {w : World} {φ : Phi} {h : Nat → Option Blk} {n : Nat} {e : Opd → Value}
theorem Does.same (H : HR φ h w) {v v' : Value} (hr : (execOp a.eval o).run P w = .ok (.value v') w) (hv : VR φ v v') : Does P o a w φ h n v .no :=
 ⟨φ, v', w, .inl hr, hv, H, Fr.same _ _ _⟩
theorem Does.push (H : HR φ h w) (hn : h n = none) {v v' : Value} {blk : Blk} (obj : Obj) (hr : (execOp a.eval o).run P w = .ok (.value v') (w.alloc obj))
  (hb : BR (zdZ φ n (w.heap.size, 0)) (w.alloc obj) w.heap.size 0 blk) (hv : VR (zdZ φ n (w.heap.size, 0)) v v') : Does P o a w φ h n v (.push blk) :=
 let ⟨h1, h2⟩ := H.push hn obj blk hb
 ⟨_, v', _, .inl hr, hv, h1, h2⟩
theorem sameScl_eq {v u : Value} (h : sameScl v u = true) : v = u := by
 unfold sameScl at h
 split at h <;> simp_all
theorem zcV : ∀ l : List Value, qI (zhU l) = l
 | [] => rfl
 | v :: r => by
  have ih := zcV r
  unfold zhU
  split
  ·rename_i m u q hc
   rw [hc] at ih
   split
   ·rename_i hs; rw [sameScl_eq hs]; simp only [qI, List.replicate_succ, List.cons_append] at ih ⊢; rw [ih]
   ·simp only [qI] at ih ⊢; rw [ih]; rfl
  ·rename_i hc
   rw [hc] at ih
   simp only [qI] at ih ⊢
   rw [← ih]; rfl
theorem zbI {t : TypeId} {z : RL} (h : zcE P t = some z) : ∃ i zv, P.info? t = some i ∧ i.zero = some zv ∧ zv.cells.toList = qI z ∧ (∀ v ∈ qI z, zbz v = true) ∧ i.size = (qI z).length := by
 unfold zcE at h
 split at h <;> try cases h
 rename_i i hi
 split at h <;> try cases h
 rename_i zv hz
 split at h <;> try cases h
 rename_i hc
 simp only [Bool.and_eq_true, List.all_eq_true, beq_iff_eq] at hc
 refine ⟨i, zv, hi, hz, (zcV _).symm, ?_, ?_⟩
 ·intro v hv; rw [zcV] at hv; exact hc.1 v hv
 ·rw [zcV]; simp [hc.2]
theorem zcF {t : TypeId} {i : TypeInfo} (h : P.info? t = some i) (w : World) : (typeInfo t).run P w = .ok i w := by
 simp [typeInfo, h]
theorem zaS {t : TypeId} {i : TypeInfo} {z : Value} (h : P.info? t = some i) (hz : i.zero = some z) (w : World) : (zeroValue t).run P w = .ok z w := by
 simp [zeroValue, zcF h, hz]
theorem zb6 {t : TypeId} {i : TypeInfo} (h : P.info? t = some i) (w : World) : (sizeOf t).run P w = .ok i.size w := by
 simp [sizeOf, zcF h]
theorem zgt {t : TypeId} {s : Nat} (h : zfx P t = some s) : ∃ i, P.info? t = some i ∧ i.size = s := by
 unfold zfx at h
 cases hi : P.info? t with
 | none => rw [hi] at h; cases h
 | some i => rw [hi] at h; simp at h; exact ⟨i, rfl, h⟩
theorem zah {t : TypeId} {s : Nat} (h : zfx P t = some s) (w : World) : (sizeOf t).run P w = .ok s w := by
 obtain ⟨i, hi, rfl⟩ := zgt h; exact zb6 hi w
theorem ldn_spec {t : TypeId} {m : Option Nat} (h : ldn P t = some m) : ∃ d i, P.underlying t = some d ∧ P.info? t = some i ∧ m = if zfR d then some i.size else none := by
 unfold ldn at h
 split at h <;> try cases h
 rename_i d i hd hi
 exact ⟨d, i, hd, hi, rfl⟩
theorem zdS {t : TypeId} {d : TypeDesc} (h : P.underlying t = some d) (w : World) : (isAgg t).run P w = .ok (zfR d) w := by
 unfold isAgg
 rw [Sem.run_bind, run_underlying h w]
 cases d <;> rfl
theorem BR.new {cs : Array Value} {c : List Value} {T : TypeId} (h : Each (SR φ) c cs.toList) (rw' : Bool) : BR φ (w.alloc (.cells cs T)) w.heap.size 0 (.cells c rw') := by
 have hl : cs.size = c.length := by have := h.1; simp at this; omega
 refine ⟨cs, T, (0, 0), heap_alloc_new w _, by simp [hl], ?_, fun _ => ⟨rfl, hl, fun i _ => by simp⟩⟩
 rw [List.drop_zero, List.take_of_length_le (by simp [hl])]
 exact h
theorem ptr_new : VR (zdZ φ n (w.heap.size, 0)) (.pointer (some ⟨n, 0, none⟩)) (.pointer (some ⟨w.heap.size, 0, none⟩)) :=
 ⟨_, rfl, rfl, w.heap.size, 0, by simp [zdZ], by simp⟩
theorem does_mv {x : Operand} {y : Opd} (he : ∀ x y, opd x = some y → VR φ (e y) (a.eval x)) (H : HR φ h w) (ho : o.op = .move x ∨ o.op = .assign x) (hx : opd x = some y) : Does P o a w φ h n (e y) .no := by
 refine Does.same H (v' := a.eval x) ?_ (he _ _ hx)
 rcases ho with ho | ho <;> simp [execOp, ho]
theorem VR.bool {b : Bool} {v' : Value} (h : VR φ (.bool b) v') : v' = .bool b := h.2
theorem VR.int {k : IntKind} {m : Int} {v' : Value} (h : VR φ (.int k m) v') : v' = .int k m := h.2
theorem VR.string {s : ByteArray} {v' : Value} (h : VR φ (.string s) v') : v' = .string s := h.2
theorem VR.pointer {x : Addr} {v' : Value} (h : VR φ (.pointer (some x)) v') : ∃ x', v' = .pointer (some x') ∧ AddrR φ x x' := h
theorem VR.slice {x : Addr} {l c : Nat} {v' : Value} (h : VR φ (.slice (some x) l c) v') : ∃ x', v' = .slice (some x') l c ∧ AddrR φ x x' := h
theorem VR.sliceNil {l c : Nat} {v' : Value} (h : VR φ (.slice none l c) v') : v' = .slice none l c := h.2
theorem VR.agg {x : Array Value} {v' : Value} (h : VR φ (.agg x) v') : ∃ x', v' = .agg x' ∧ Each (SR φ) x.toList x'.toList := h
theorem VR.map {r : Nat} {v' : Value} (h : VR φ (.map (some r)) v') : ∃ b, v' = .map (some b) ∧ φ r = some (b, 0) := h
theorem VR.mapNil {v' : Value} (h : VR φ (.map none) v') : v' = .map none := h.2
theorem VR.chan {r : Nat} {v' : Value} (h : VR φ (.chan (some r)) v') : ∃ b, v' = .chan (some b) ∧ φ r = some (b, 0) := h
theorem VR.tuple {x : Array Value} {v' : Value} (h : VR φ (.tuple x) v') : ∃ x', v' = .tuple x' ∧ Each (GR φ) x.toList x'.toList := h
theorem VR.mkBool (b : Bool) : VR φ (.bool b) (.bool b) := ⟨rfl, rfl⟩
theorem VR.mkInt (k : IntKind) (m : Int) : VR φ (.int k m) (.int k m) := ⟨rfl, rfl⟩
theorem VR.mkString (s : ByteArray) : VR φ (.string s) (.string s) := ⟨rfl, rfl⟩
theorem VR.undef : VR φ undef undef := ⟨_, rfl, Each.nil _⟩
theorem does_pick {c x y : Operand} {c' x' y' : Opd} {t : Bool} (he : ∀ x y, opd x = some y → VR φ (e y) (a.eval x)) (H : HR φ h w) (ho : o.op = .pick c x y) (hc : opd c = some c') (hx : opd x = some x') (hy : opd y = some y')
  (ht : e c' = .bool t) : Does P o a w φ h n (if t then e x' else e y') .no := by
 have h1 := he _ _ hc
 rw [ht] at h1
 refine Does.same H (v' := if t then a.eval x else a.eval y) ?_ ?_
 ·simp [execOp, ho, h1.bool, asBool]
 ·cases t
  ·exact he _ _ hy
  ·exact he _ _ hx
theorem does_new {t : TypeId} {z : RL} (H : HR φ h w) (hn : h n = none) (ho : o.op = .alloc t) (hz : zcE P t = some z) :
  Does P o a w φ h n (.pointer (some ⟨n, 0, none⟩)) (.push (.cells (qI z) true)) := by
 obtain ⟨i, zv, hi, hzv, hc, hp, _⟩ := zbI hz
 refine Does.push H hn (.cells zv.cells t) ?_ ?_ ptr_new
 ·simp [execOp, ho, Instr.alloc, zaS hi hzv, newVar, newRow]
 ·exact BR.new (by rw [hc]; exact Each.refl_of fun v hv => SR.of_sclf (hp v hv)) true
theorem does_box {t : TypeId} {x : Operand} {y : Opd} (he : ∀ x y, opd x = some y → VR φ (e y) (a.eval x)) (H : HR φ h w) (hn : h n = none) (ho : o.op = .box t x) (hx : opd x = some y) (ht : zbG (e y) = false) :
  Does P o a w φ h n (.pointer (some ⟨n, 0, none⟩)) (.push (.cells (zcN (e y)) true)) := by
 refine Does.push H hn (.cells (a.eval x).cells t) ?_ ?_ ptr_new
 ·simp [execOp, ho, Instr.box, newVar, newRow]
 ·exact BR.new (((GR.of_VR ht (he _ _ hx)).mono (Le.upd (H.nil n hn) _)).cells) true
theorem zfN : ∀ (ps : List (Nat × Nat × Value)) (cs r : List Value), zdO cs ps = some r → ∀ (cs' : List Value) (rs : List (Nat × Value)) (pl : Nat → Option (Nat × Nat)), Each (SR φ) cs cs' →
  ps.length = rs.length → (∀ (j : Nat) p q, ps[j]? = some p → rs[j]? = some q → pl q.1 = some (p.1, p.2.1) ∧ VR φ p.2.2 q.2) →
  ∃ r', Instr.fill pl cs'.toArray rs = some r' ∧ Each (SR φ) r r'.toList
 | [], cs, r, hf, cs', rs, pl, hc, hl, hp => by
  cases rs with
  | nil => simp [zdO] at hf; subst hf; exact ⟨_, rfl, by simpa using hc⟩
  | cons _ _ => simp at hl
 | (o, s, v) :: ps, cs, r, hf, cs', rs, pl, hc, hl, hp => by
  cases rs with
  | nil => simp at hl
  | cons q rs =>
   obtain ⟨i, u⟩ := q
   simp only [zdO] at hf
   split at hf <;> try cases hf
   rename_i hk
   obtain ⟨ht, hs, hb⟩ := hk
   obtain ⟨hpl, hv⟩ := hp 0 (o, s, v) (i, u) rfl rfl
   have hcell := (GR.of_VR ht hv).cells
   have hsz : u.cells.size = s := by have := hcell.1; simp at this; omega
   have hcs : cs'.length = cs.length := hc.1.symm
   have key : (u.cells.zipIdx.foldl (fun cs x => cs.setIfInBounds (o + x.2) x.1) cs'.toArray) = (splice cs' o u.cells.toList).toArray := by
    have gen : ∀ (l : List Value) (k : Nat) (c : List Value), o + k + l.length ≤ c.length →
      ((l.zipIdx k).foldl (fun cs x => cs.setIfInBounds (o + x.2) x.1) c.toArray) = (splice c (o + k) l).toArray := by
     intro l
     induction l with
     | nil => intro k c _; simp [splice]
     | cons x l ih =>
      intro k c hlen
      simp only [List.zipIdx_cons, List.foldl_cons]
      have : (c.toArray.setIfInBounds (o + k) x) = (c.set (o + k) x).toArray := by simp
      rw [this, ih (k + 1) _ (by simp at hlen ⊢; omega)]
      congr 1
      simp only [List.length_cons] at hlen
      unfold splice
      rw [show o + (k + 1) = o + k + 1 by omega]
      rw [List.take_add_one, List.take_set_of_le (by omega)]
      simp only [List.length_cons]
      have h1 : (c.set (o + k) x)[o + k]?.toList = [x] := by
       rw [List.getElem?_set_self (by omega)]; rfl
      rw [h1, List.drop_set_of_lt (by omega)]
      simp only [List.append_assoc, List.singleton_append, List.cons_append, List.nil_append]
      rw [show o + k + 1 + l.length = o + k + (l.length + 1) by omega]
    have := gen u.cells.toList 0 cs' (by simp [hsz]; omega)
    simp only [Nat.add_zero] at this
    rw [← this, ← Array.foldl_toList]
    congr 1
    simp
   have hstep : Instr.fill pl cs'.toArray ((i, u) :: rs) = Instr.fill pl (splice cs' o u.cells.toList).toArray rs := by
    simp only [Instr.fill, hpl]
    rw [if_neg (by simp [hsz]; omega), key]
   rw [hstep]
   exact zfN ps _ r hf _ rs pl (hc.splice hcell o) (by simpa using hl) (fun j p q hp' hq' => hp (j + 1) p q (by simpa using hp') (by simpa using hq'))
theorem zek (pl : Nat → Option (Nat × Nat)) (he : ∀ x y, opd x = some y → VR φ (e y) (a.eval x)) : ∀ (ps : List (Nat × Operand)) (qs : List (Nat × Nat × Opd)), zf8 pl ps = some qs →
  (qs.map fun p => (p.1, p.2.1, e p.2.2)).length = (ps.map fun x => (x.1, a.eval x.2)).length ∧
  ∀ (j : Nat) p q, (qs.map fun p => (p.1, p.2.1, e p.2.2))[j]? = some p → (ps.map fun x => (x.1, a.eval x.2))[j]? = some q → pl q.1 = some (p.1, p.2.1) ∧ VR φ p.2.2 q.2
 | [], qs, hq => by simp [zf8] at hq; subst hq; simp
 | (i, x) :: ps, qs, hq => by
  simp only [zf8] at hq
  split at hq <;> try cases hq
  rename_i o s y l hpl hx hl
  obtain ⟨h1, h2⟩ := zek pl he ps l hl
  refine ⟨by simpa using h1, fun j => ?_⟩
  cases j with
  | zero => intro p q hp hq; simp at hp hq; subst hp; subst hq; exact ⟨hpl, he _ _ hx⟩
  | succ j => intro p q hp hq; exact h2 j p q (by simpa using hp) (by simpa using hq)
theorem ze3 (w : World) : ∀ (fs : List Field) (pl : List (Nat × Nat)), zhx P fs = some pl → (fs.mapM (fun f => do pure (f.offset, ← sizeOf f.type) : Field → Sem (Nat × Nat))).run P w = .ok pl w
 | [], pl, h => by simp [zhx] at h; subst h; simp
 | f :: fs, pl, h => by
  simp only [zhx, List.mapM_cons] at h
  cases h1 : zfx P f.type with
  | none => simp [h1] at h
  | some s =>
   cases h2 : zhx P fs with
   | none => simp only [zhx] at h2; simp [h1, h2] at h
   | some q =>
    have h2' := h2
    simp only [zhx] at h2'
    simp [h1, h2'] at h
    subst h
    have ih := ze3 w fs q h2
    simp only [bind_pure_comp] at ih ⊢
    simp [List.mapM_cons, zah h1, ih]
theorem does_bld {t : TypeId} {ps : Array (Nat × Operand)} {z : RL} {qs : List (Nat × Nat × Opd)} {c : List Value} (he : ∀ x y, opd x = some y → VR φ (e y) (a.eval x)) (H : HR φ h w) (ho : o.op = .build t ps)
  (hc : cOp P o = .bld z qs) (hf : zdO (qI z) (qs.map fun p => (p.1, p.2.1, e p.2.2)) = some c) : Does P o a w φ h n (.agg c.toArray) .no := by
 simp only [cOp, ho] at hc
 split at hc
 ·rename_i fs z' hu hz
  split at hc <;> try cases hc
  rename_i pl hpl
  split at hc <;> try cases hc
  rename_i l hl
  obtain ⟨i, zv, hi, hzv, hcz, hp, _⟩ := zbI hz
  obtain ⟨h1, h2⟩ := zek _ he _ _ hl
  obtain ⟨r', hr, hE⟩ := zfN (φ := φ) _ _ _ hf zv.cells.toList (ps.toList.map fun x => (x.1, a.eval x.2)) (pl[·]?) (by rw [hcz]; exact Each.refl_of fun v hv => SR.of_sclf (hp v hv)) h1 h2
  refine Does.same H (v' := .agg r') ?_ ⟨r', rfl, by simpa using hE⟩
  have hpl' := ze3 w fs.toList pl hpl
  have hr' : Instr.fill (fun x => pl[x]?) zv.cells (ps.toList.map fun x => (x.1, a.eval x.2)) = some r' := by simpa using hr
  simp only [bind_pure_comp] at hpl'
  simp [execOp, ho, Instr.build, zaS hi hzv, run_underlying hu, Array.mapM_eq_mapM_toList, hpl', hr']
 ·rename_i len el z' hu hz
  split at hc <;> try cases hc
  rename_i s hs
  split at hc <;> try cases hc
  rename_i l hl
  obtain ⟨i, zv, hi, hzv, hcz, hp, _⟩ := zbI hz
  obtain ⟨h1, h2⟩ := zek _ he _ _ hl
  obtain ⟨r', hr, hE⟩ := zfN (φ := φ) _ _ _ hf zv.cells.toList (ps.toList.map fun x => (x.1, a.eval x.2)) (fun i => some (i * s, s)) (by rw [hcz]; exact Each.refl_of fun v hv => SR.of_sclf (hp v hv)) h1 h2
  refine Does.same H (v' := .agg r') ?_ ⟨r', rfl, by simpa using hE⟩
  have hr' : Instr.fill (fun i => some (i * s, s)) zv.cells (ps.toList.map fun x => (x.1, a.eval x.2)) = some r' := by simpa using hr
  simp [execOp, ho, Instr.build, zaS hi hzv, run_underlying hu, zah hs, hr']
 ·cases hc
theorem zero_row (z : Array Value) (len : Nat) : ((Array.range (len * z.size)).map (fun i => z[i % z.size]!)).toList = (List.replicate len z.toList).flatten := by
 induction len with
 | zero => simp
 | succ k ih =>
  rw [List.replicate_succ', List.flatten_append, ← ih]
  simp only [Array.toList_map, Array.toList_range, List.flatten_cons, List.flatten_nil, List.append_nil]
  rw [Nat.succ_mul, List.range_add, List.map_append]
  congr 1
  rw [List.map_map]
  apply List.ext_getElem
  ·simp
  ·intro i h1 h2
   simp at h1
   simp [Nat.mul_add_mod_of_lt, Nat.add_comm, Nat.add_mul_mod_self_right, Nat.mod_eq_of_lt h1, h1]
theorem does_bsl {t : TypeId} {len : Nat} {ps : Array (Nat × Operand)} {z : RL} {s l : Nat} {qs : List (Nat × Nat × Opd)} {c : List Value} (he : ∀ x y, opd x = some y → VR φ (e y) (a.eval x)) (H : HR φ h w) (hn : h n = none) (ho : o.op = .buildSlice t len ps)
  (hc : cOp P o = .bsl z s l qs) (hf : zdO (List.replicate l (qI z)).flatten (qs.map fun p => (p.1, p.2.1, e p.2.2)) = some c) :
  Does P o a w φ h n (.slice (some ⟨n, 0, none⟩) l l) (.push (.cells c true)) := by
 simp only [cOp, ho] at hc
 split at hc <;> try cases hc
 rename_i el hu
 split at hc <;> try cases hc
 rename_i _ _ hs hz
 split at hc <;> try cases hc
 rename_i qs hl
 split at hc <;> try cases hc
 rename_i hb
 obtain ⟨i, zv, hi, hzv, hcz, hp, hsz⟩ := zbI hz
 obtain ⟨h1, h2⟩ := zek _ he _ _ hl
 have hzs : zv.cells.size = s := by
  obtain ⟨j, hj, hjs⟩ := zgt hs
  rw [hi] at hj; cases hj
  have := congrArg List.length hcz
  simp at this; omega
 have hrow : ((Array.range (len * s)).map (fun i => zv.cells[i % zv.cells.size]!)).toList = (List.replicate len (qI z)).flatten := by
  rw [← hzs, zero_row, hcz]
 obtain ⟨r', hr, hE⟩ := zfN (φ := φ) _ _ _ hf (List.replicate len (qI z)).flatten (ps.toList.map fun x => (x.1, a.eval x.2)) (fun i => some (i * s, s))
  (Each.refl_of fun v hv => SR.of_sclf (hp v (by
   simp only [List.mem_flatten, List.mem_replicate] at hv
   obtain ⟨l, ⟨_, rfl⟩, hv⟩ := hv
   exact hv))) h1 h2
 simp only [Bool.or_eq_true, beq_iff_eq, decide_eq_true_eq, not_or, Nat.not_lt] at hb
 have hr' : Instr.fill (fun i => some (i * s, s)) ((Array.range (len * s)).map (fun i => zv.cells[i % zv.cells.size]!)) (ps.toList.map fun x => (x.1, a.eval x.2)) = some r' := by
  rw [← hr, ← hrow]
 refine Does.push H hn (.cells r' el) (v' := .slice (some ⟨w.heap.size, 0, none⟩) len len) ?_ (BR.new (hE.mono fun _ _ => SR.mono (Le.upd (H.nil n hn) _)) true) ⟨_, rfl, rfl, w.heap.size, 0, by simp [zdZ], by simp⟩
 have hlt : ¬ (16777216 < len * s) := by omega
 by_cases h0 : len * s = 0
 ·have hl0 : len = 0 := by
   rcases Nat.mul_eq_zero.1 h0 with h | h
   ·exact h
   ·exact absurd h hb.1
  subst hl0
  have hr2 : Instr.fill (fun i => some (i * s, s)) #[] (ps.toList.map fun x => (x.1, a.eval x.2)) = some r' := by simpa [Array.range_zero'] using hr'
  simp [execOp, ho, Instr.buildSlice, run_underlying hu, zah hs, newRow, hr2, Array.range_zero']
 ·simp [execOp, ho, Instr.buildSlice, run_underlying hu, zah hs, zaS hi hzv, h0, hlt, newRow]
  have hr3 : Instr.fill (fun i => some (i * s, s)) (Array.map (fun x => zv.cells[x % zv.cells.size]!) (Array.range (len * s))) (ps.toList.map fun x => (x.1, a.eval x.2)) = some r' := hr'
  simp only [hr3]
  simp
theorem Each.getElem_of {R} {c : List Value} {c' : Array Value} {b : Nat} (h : Each R c ((c'.toList.drop b).take c.length)) {i : Nat} {v : Value} (hv : c[i]? = some v) : ∃ v', c'[b + i]? = some v' ∧ R v v' := by
 obtain ⟨v', h1, h2⟩ := h.get hv
 refine ⟨v', ?_, h2⟩
 rw [List.getElem?_take] at h1
 split at h1 <;> try cases h1
 rw [List.getElem?_drop] at h1
 simpa using h1
theorem zg0 (w : World) (b o m : Nat) (c' : Array Value) (T : TypeId) (fr : Nat × Nat) (hg : w.heap[b]? = some (.cells c' T fr)) (hl : o + m ≤ c'.size) :
  (loadCells ⟨b, o, none⟩ m).run P w = .ok ((c'.toList.drop o).take m).toArray w := by
 have hlen : ((c'.toList.drop o).take m).length = m := by simp; omega
 have := run_loadCells_list (P := P) w ⟨b, o, none⟩ ((c'.toList.drop o).take m) (fun j v hv => by
  have hadd : (⟨b, o, none⟩ : Addr).add j = ⟨b, o + j, none⟩ := by unfold Addr.add; split <;> simp_all
  rw [hadd, cell_of_row w b (o + j) c' T fr hg]
  rw [List.getElem?_take] at hv
  split at hv <;> try cases hv
  rw [List.getElem?_drop] at hv
  simpa using hv)
 rwa [hlen] at this
theorem BR.seg {b o : Nat} {c : List Value} {rw' : Bool} (hb : BR φ w b o (.cells c rw')) (k m : Nat) (hk : k + m ≤ c.length) :
  ∃ c', (loadCells ⟨b, o + k, none⟩ m).run P w = .ok c' w ∧ Each (SR φ) ((c.drop k).take m) c'.toList := by
 obtain ⟨c', T, fr, h1, h2, h3, _⟩ := hb
 refine ⟨_, zg0 w b (o + k) m c' T fr h1 (by omega), ?_⟩
 have := (h3.drop k).take m
 rw [List.drop_take, List.drop_drop, List.take_take, show min m (c.length - k) = m by omega] at this
 simpa [Nat.add_comm] using this
theorem zji {m : Option Nat} {c : List Value} {k : Nat} {v : Value} (h : zam m c k = some v) : (m = none ∧ c[k]? = some v) ∨ (∃ s, m = some s ∧ k + s ≤ c.length ∧ v = .agg ((c.drop k).take s).toArray) := by
  unfold zam at h
  cases m with
  | none => exact .inl ⟨rfl, h⟩
  | some s => simp only at h; split at h <;> try cases h
              rename_i hk; exact .inr ⟨s, rfl, hk, rfl⟩
theorem zfW {t : TypeId} {m : Option Nat} (hm : ldn P t = some m) {b o : Nat} {c : List Value} {rw' : Bool} (hb : BR φ w b o (.cells c rw')) {k : Nat} {v : Value} (hp : zam m c k = some v) :
  ∃ v', (loadVar t ⟨b, o + k, none⟩).run P w = .ok v' w ∧ GR φ v v' := by
 obtain ⟨d, i, hd, hi, rfl⟩ := ldn_spec hm
 rcases zji hp with ⟨hm0, hv⟩ | ⟨s, hms, hk, rfl⟩
 ·have hag : zfR d = false := by cases h : zfR d <;> simp [h] at hm0 ⊢
  have hb' := hb
  obtain ⟨c', T, fr, h1, h2, h3, _⟩ := hb'
  obtain ⟨v', h4, h5⟩ := Each.getElem_of h3 hv
  refine ⟨v', ?_, GR.of_SR h5⟩
  simp [loadVar, zdS hd, hag, cell_of_row w b (o + k) c' T fr h1, h4]
 ·have hag : zfR d = true := by cases h : zfR d <;> simp [h] at hms ⊢
  have hs : i.size = s := by simpa [hag] using hms
  obtain ⟨c', hr, hE⟩ := hb.seg (P := P) k s hk
  refine ⟨.agg c', ?_, c', rfl, by simpa using hE⟩
  simp [loadVar, zdS hd, hag, zb6 hi, hs, hr]
theorem ldV_spec {m : Option Nat} {x v : Value} (h1 : ldV h m x = some v) : ∃ k o c r, x = .pointer (some ⟨k, o, none⟩) ∧ h k = some (.cells c r) ∧ zam m c o = some v := by
 unfold ldV at h1
 split at h1 <;> try cases h1
 rename_i k o
 split at h1 <;> try cases h1
 rename_i c r hk
 exact ⟨k, o, c, r, rfl, hk, h1⟩
theorem does_ld {t : TypeId} {x : Operand} {y : Opd} {m : Option Nat} {v : Value} (he : ∀ x y, opd x = some y → VR φ (e y) (a.eval x)) (H : HR φ h w) (ho : o.op = .load t x) (hx : opd x = some y) (hm : ldn P t = some m)
  (hv : ldV h m (e y) = some v) : Does P o a w φ h n v .no := by
 obtain ⟨k, off, c, r, hy, hk, hp⟩ := ldV_spec hv
 have h1 := he _ _ hx
 rw [hy] at h1
 obtain ⟨x', hx', _, b, bo, hφ, rfl⟩ := h1.pointer
 obtain ⟨b', o', hφ', hb⟩ := H.has k _ hk
 rw [hφ] at hφ'; cases hφ'
 obtain ⟨v', hr, hG⟩ := zfW (P := P) hm hb hp
 refine Does.same H (v' := v') ?_ (VR.of_GR hG)
 simp [execOp, ho, Instr.loadAt, Instr.sureAddr, hx', hr]
theorem splice_set (c : List Value) (k : Nat) (v : Value) (rest : List Value) (hk : k + (rest.length + 1) ≤ c.length) : splice (c.set k v) (k + 1) rest = splice c k (v :: rest) := by
 unfold splice
 exact list_seg_step c k v rest hk
theorem zez (P : Program) (g o : Nat) (t : TypeId) (fr : Nat × Nat) : ∀ (vs : List Value) (i : Nat) (cur : Array Value) (w : World), w.heap[g]? = some (.cells cur t fr) → (∀ j, j < cur.size → ¬ (fr.1 ≤ j ∧ j < fr.2)) → o + i + vs.length ≤ cur.size → (∀ v ∈ vs, v.oneCell' = true) →
  (storeCells ⟨g, o, none⟩ vs i).run P w = .ok () (w.setRow g (splice cur.toList (o + i) vs).toArray)
 | [], i, cur, w, hg, _, _, _ => by
  simp only [storeCells, splice, List.append_nil, List.length_nil, Nat.add_zero, List.take_append_drop, Array.toArray_toList]
  rw [setRow_self w g cur t fr hg]
  rfl
 | v :: rest, i, cur, w, hg, hf, hl, h1 => by
  have hi : o + i < cur.size := by simp at hl; omega
  have hadd : (⟨g, o, none⟩ : Addr).add i = ⟨g, o + i, none⟩ := by unfold Addr.add; split <;> simp_all
  have hcell : w.cell? ⟨g, o + i, none⟩ = some cur[o + i] := by simp [World.cell?, hg, hi]
  have hfro : w.frozen? ⟨g, o + i, none⟩ = false := by
   have := hf (o + i) hi
   simp only [World.frozen?, hg]
   simpa using this
  have hst : (store ((⟨g, o, none⟩ : Addr).add i) v).run P w = .ok () (w.setRow g (cur.setIfInBounds (o + i) v)) := by
   rw [hadd, run_store P w _ v _ (h1 v (by simp)), hcell]
   simp [hfro, setCell_eq_setRow w g (o + i) cur t fr v hg]
  have ih := zez P g o t fr rest (i + 1) (cur.setIfInBounds (o + i) v) (w.setRow g (cur.setIfInBounds (o + i) v)) (setRow_heap w g cur _ t _ hg) (by simpa using hf) (by simp at hl ⊢; omega) (fun x hx => h1 x (by simp [hx]))
  simp only [storeCells, Sem.run_bind, hst, Result.andThen_ok, ih, setRow_setRow]
  congr 3
  have e := splice_set cur.toList (o + i) v rest (by simp at hl ⊢; omega)
  simpa [Array.toList_setIfInBounds, Nat.add_assoc] using e
theorem length_splice (c : List Value) (k : Nat) (vs : List Value) (hk : k + vs.length ≤ c.length) : (splice c k vs).length = c.length := by
 unfold splice; simp; omega
theorem zf5 (H : HR φ h w) {k : Nat} {c : List Value} (hk : h k = some (.cells c true)) {b bo : Nat} (hφ : φ k = some (b, bo)) {off : Nat} {vs vs' : List Value} (hv : Each (SR φ) vs vs') (hl : off + vs.length ≤ c.length) :
  ∃ w', (storeCells ⟨b, bo + off, none⟩ vs').run P w = .ok () w' ∧ HR φ (zdZ h k (.cells (splice c off vs) true)) w' ∧ Fr φ h w φ (zdZ h k (.cells (splice c off vs) true)) w' := by
 obtain ⟨b', o', hφ', hb⟩ := H.has k _ hk
 rw [hφ] at hφ'; cases hφ'
 obtain ⟨c', T, fr, h1, h2, h3, h4⟩ := hb
 obtain ⟨rfl, hsz, hfr⟩ := h4 rfl
 have hl' : vs'.length = vs.length := hv.1.symm
 have hr := zez P b (0 + off) T fr vs' 0 c' w h1 hfr (by omega) (hv.all fun _ _ r => r.one)
 refine ⟨_, hr, ?_⟩
 have h3' : Each (SR φ) c c'.toList := by
  rw [List.drop_zero, List.take_of_length_le (by simp [hsz])] at h3; exact h3
 have hspl : Each (SR φ) (splice c off vs) (splice c'.toList (0 + off + 0) vs') := by
  rw [show 0 + off + 0 = off by omega]; exact h3'.splice hv off
 refine HR.set H hk rfl hφ ?_ rfl (by simp) (fun j hj => setRow_other w b j _ hj) rfl rfl rfl
 refine ⟨_, T, fr, setRow_heap w b c' _ T fr h1, ?_, ?_, fun _ => ⟨rfl, ?_, ?_⟩⟩
 ·have := hspl.1; simp only [Nat.zero_add]; rw [this]; simp
 ·rw [List.drop_zero, List.take_of_length_le (by have := hspl.1; simp [this])]; simpa using hspl
 ·have := hspl.1; simpa using this.symm
 ·intro i hi
  apply hfr
  have := hspl.1
  rw [length_splice c off vs hl] at this
  simp only [List.size_toArray] at hi
  omega
theorem does_st {t : TypeId} {x y : Operand} {x' y' : Opd} {m : Nat} {f : Eff} (he : ∀ x y, opd x = some y → VR φ (e y) (a.eval x)) (H : HR φ h w) (ho : o.op = .store t x y) (hx : opd x = some x') (hy : opd y = some y') (hm : zfx P t = some m)
  (hf : stV h m (e y') (e x') = some f) : Does P o a w φ h n undef f := by
 unfold stV at hf
 split at hf <;> try cases hf
 rename_i k off hxe
 split at hf <;> try cases hf
 rename_i ht
 split at hf <;> try cases hf
 rename_i c hk
 split at hf <;> try cases hf
 rename_i hb
 have h1 := he _ _ hx
 rw [hxe] at h1
 obtain ⟨x2, hx', _, b, bo, hφ, rfl⟩ := h1.pointer
 have h2 := (GR.of_VR (by simpa using ht) (he _ _ hy)).cells
 obtain ⟨w', hr, h3, h4⟩ := zf5 (P := P) (off := off) H hk hφ h2 (by omega)
 refine ⟨φ, undef, w', .inr ⟨?_, rfl⟩, VR.undef, h3, h4⟩
 have hsz : (a.eval y).cells.size = m := by have := h2.1; simp at this; omega
 simp [execOp, ho, Instr.storeAt, Instr.sureAddr, hx', storeVar, zah hm, hsz, hr]
end
end Go.Rh

namespace Go.Rh
section
variable {P : Program} {o : Oper} {a : Act} {w : World} {φ : Phi} {h : Nat → Option Blk} {n : Nat} {e : Opd → Value}
theorem does_nilc {x : Operand} {y : Opd} {ad : Addr} (he : ∀ x y, opd x = some y → VR φ (e y) (a.eval x)) (H : HR φ h w) (ho : o.op = .nilCheck x) (hx : opd x = some y) (hv : e y = .pointer (some ad)) : Does P o a w φ h n (.pointer (some ad)) .no := by
 have h1 := he _ _ hx
 rw [hv] at h1
 obtain ⟨x', hx', hA⟩ := h1.pointer
 refine Does.same H (v' := .pointer (some x')) ?_ ⟨x', rfl, hA⟩
 simp [execOp, ho, hx']
theorem run_binI (t : TypeId) {op : BinOp} {k k' : IntKind} {x y : Int} {v : Value} (hv : binI op k x k' y = some v) : (binOp op t (.int k x) (.int k' y)).run P w = .ok v w := by
 cases op <;> simp only [binI] at hv
 case shl => split at hv <;> cases hv; rename_i hy; simp [binOp, Op.shift, hy]
 case shr => split at hv <;> cases hv; rename_i hy; simp [binOp, Op.shift, hy]
 all_goals
  by_cases hk : k = k'
  ·subst hk
   simp only [ne_eq, not_true_eq_false, if_false] at hv
   first
    | (cases hv; simp [binOp, Op.intArith, Op.intCmp, Op.intBits]; done)
    | (split at hv <;> cases hv; rename_i hy; simp [binOp, Op.intDiv, hy]; done)
  ·rw [if_pos (by simpa using hk)] at hv; cases hv
theorem run_binS (t : TypeId) {op : BinOp} {x y : ByteArray} {v : Value} (hv : binS op x y = some v) : (binOp op t (.string x) (.string y)).run P w = .ok v w := by
 cases op <;> simp only [binS] at hv
 case add => split at hv <;> cases hv; rename_i hy; simp only [binOp, Op.stringOp, if_neg hy]; rfl
 all_goals first | (cases hv; simp [binOp, Op.stringOp]; done) | cases hv
theorem VR.plain {v v' : Value} (hv : zbz v = true) (h : VR φ v v') : v' = v := by
 have : SR φ v v' := by cases v <;> first | exact h | (simp [zbz] at hv)
 exact SR.eq_of_sclf hv this
theorem binV_plain {op : BinOp} {x y v : Value} (h : binV op x y = some v) : (∃ k a k' b, x = .int k a ∧ y = .int k' b ∧ binI op k a k' b = some v) ∨ (∃ s t, x = .string s ∧ y = .string t ∧ binS op s t = some v) := by
 unfold binV at h
 split at h
 ·exact .inl ⟨_, _, _, _, rfl, rfl, h⟩
 ·exact .inr ⟨_, _, rfl, rfl, h⟩
 ·cases h
theorem binI_sclf {op : BinOp} {k k' : IntKind} {x y : Int} {v : Value} (hv : binI op k x k' y = some v) : zbz v = true := by
 cases op <;> simp only [binI] at hv
 all_goals (repeat' (split at hv)) <;> first | (cases hv; rfl) | cases hv
theorem binS_sclf {op : BinOp} {x y : ByteArray} {v : Value} (hv : binS op x y = some v) : zbz v = true := by
 cases op <;> simp only [binS] at hv
 all_goals (repeat' (split at hv)) <;> first | (cases hv; rfl) | cases hv
theorem VR.of_sclf {v : Value} (h : zbz v = true) : VR φ v v := VR.of_GR (GR.of_SR (SR.of_sclf h))
theorem does_bin {op : BinOp} {t t' : TypeId} {x y : Operand} {x' y' : Opd} {v : Value} (he : ∀ x y, opd x = some y → VR φ (e y) (a.eval x)) (H : HR φ h w) (ho : o.op = .binOp op t x y t') (hx : opd x = some x') (hy : opd y = some y')
  (hv : binV op (e x') (e y') = some v) : Does P o a w φ h n v .no := by
 have h1 := he _ _ hx
 have h2 := he _ _ hy
 rcases binV_plain hv with ⟨k, p, k', q, ex, ey, hb⟩ | ⟨p, q, ex, ey, hb⟩ <;> rw [ex] at h1 <;> rw [ey] at h2
 ·refine Does.same H (v' := v) ?_ (VR.of_sclf (binI_sclf hb))
  simp [execOp, ho, h1.int, h2.int, eqGuard_at_int, run_binI t hb]
 ·refine Does.same H (v' := v) ?_ (VR.of_sclf (binS_sclf hb))
  simp [execOp, ho, h1.string, h2.string, eqGuard_at_string, run_binS t hb]
theorem does_eqb {op : BinOp} {t t' : TypeId} {x y : Operand} {x' y' : Opd} {p q : Bool} (he : ∀ x y, opd x = some y → VR φ (e y) (a.eval x)) (H : HR φ h w) (ho : o.op = .binOp op t x y t') (hx : opd x = some x') (hy : opd y = some y')
  (hop : op = .eql ∨ op = .neq) (hu : P.underlying t = some .bool) (ex : e x' = .bool p) (ey : e y' = .bool q) : Does P o a w φ h n (.bool (if (op == .neq) then p != q else p == q)) .no := by
 have h1 := he _ _ hx
 have h2 := he _ _ hy
 rw [ex] at h1
 rw [ey] at h2
 rcases hop with rfl | rfl
 ·refine Does.same H (v' := .bool (p == q)) ?_ (VR.mkBool _)
  simp [execOp, ho, h1.bool, h2.bool, eqGuard_at_bool, run_eql_bool w t p q hu]
 ·refine Does.same H (v' := .bool (p != q)) ?_ (VR.mkBool _)
  simp [execOp, ho, h1.bool, h2.bool, eqGuard_at_bool, run_neq_bool w t p q hu, bne]
theorem zf3 : ∀ l : List LK, zcO (packK l) = l
 | [] => rfl
 | k :: r => by
  have ih := zf3 r
  unfold packK
  split
  ·rename_i n u q hc
   rw [hc] at ih
   split
   ·rename_i hs; subst hs; simp only [zcO, List.replicate_succ, List.cons_append] at ih ⊢; rw [ih]
   ·simp only [zcO] at ih ⊢; rw [ih]; rfl
  ·rename_i hc
   rw [hc] at ih
   simp only [zcO] at ih ⊢
   rw [← ih]; rfl
theorem zjq : ∀ {k1 k2 : List LK} {x1 y1 x2 y2 : List Value} {r : Bool}, x1.length = k1.length → y1.length = k1.length → eqK (k1 ++ k2) (x1 ++ x2) (y1 ++ y2) = some r →
  ∃ r1 r2, eqK k1 x1 y1 = some r1 ∧ eqK k2 x2 y2 = some r2 ∧ r = (r1 && r2) := by
 intro k1
 induction k1 with
 | nil =>
  intro k2 x1 y1 x2 y2 r hx hy h
  simp at hx hy; subst hx; subst hy
  exact ⟨true, r, rfl, h, by simp⟩
 | cons k ks ih =>
  intro k2 x1 y1 x2 y2 r hx hy h
  cases x1 with
  | nil => simp at hx
  | cons a x =>
   cases y1 with
   | nil => simp at hy
   | cons b y =>
    simp only [List.cons_append] at h
    simp only [List.length_cons, Nat.add_right_cancel_iff] at hx hy
    simp only [eqK] at h ⊢
    split at h <;> try cases h
    rename_i r0 q h0 hq
    obtain ⟨r1, r2, h1, h2, rfl⟩ := ih hx hy hq
    exact ⟨r0 && r1, r2, by simp [h0, h1], h2, by simp [Bool.and_assoc]⟩
theorem zdU : ∀ {k : List LK} {x y : List Value} {r : Bool}, eqK k x y = some r → x.length = k.length ∧ y.length = k.length
 | [], [], [], _, _ => ⟨rfl, rfl⟩
 | k :: ks, a :: x, b :: y, r, h => by
  simp only [eqK] at h
  split at h <;> try cases h
  rename_i r0 q h0 hq
  obtain ⟨h1, h2⟩ := zdU hq
  simp [h1, h2]
 | [], _ :: _, _, _, h => by simp [eqK] at h
 | [], [], _ :: _, _, h => by simp [eqK] at h
 | _ :: _, [], _, _, h => by simp [eqK] at h
 | _ :: _, _ :: _, [], _, h => by simp [eqK] at h
def EqAt (P : Program) (D : Nat) (t : TypeId) (ks : List LK) : Prop :=
 ∀ (w : World) (xs ys : Array Value) (off : Nat) (r : Bool), eqK ks ((xs.toList.drop off).take ks.length) ((ys.toList.drop off).take ks.length) = some r →
  ((part t xs off).run P w).andThen (fun u w' => ((part t ys off).run P w').andThen fun v w'' => (Op.equalIn D t u v).run P w'') = .ok r w
def EqWh (P : Program) (D : Nat) (t : TypeId) (ks : List LK) : Prop :=
 ∀ (w : World) (xs ys : Array Value) (r : Bool), eqK ks xs.toList ys.toList = some r → (Op.equalIn D t (.agg xs) (.agg ys)).run P w = .ok r w
theorem EqAt.of_whole {D : Nat} {t : TypeId} {ks : List LK} {d : TypeDesc} (hd : P.underlying t = some d) (hg : zfR d = true) (hs : zfx P t = some ks.length) (hw : EqWh P D t ks) : EqAt P D t ks := by
 intro w xs ys off r hr
 have e : ∀ zs : Array Value, (part t zs off).run P w = .ok (.agg (zs.extract off (off + ks.length))) w := fun zs => by
  simp [part, zdS hd, hg, zah hs]
 rw [e xs]
 simp only [Result.andThen_ok]
 rw [e ys]
 simp only [Result.andThen_ok]
 refine hw w _ _ r ?_
 have : ∀ zs : Array Value, (zs.extract off (off + ks.length)).toList = (zs.toList.drop off).take ks.length := fun zs => by
  simp [Array.toList_extract, List.extract_eq_take_drop]
 rw [this, this]
 exact hr
theorem EqAt.leaf {D : Nat} {t : TypeId} {k : LK} (hu : P.underlying t = some (match k with | .b => .bool | .i => .int .i64 | .s => .string) ∨ (k = .i ∧ ∃ j, P.underlying t = some (.int j))) : EqAt P (D + 1) t [k] := by
 intro w xs ys off r hr
 simp only [List.length_singleton] at hr
 have hx : ∃ x, xs[off]? = some x := by
  cases h : xs[off]? with
  | some x => exact ⟨x, rfl⟩
  | none =>
   have hh : (xs.toList.drop off).take 1 = [] := by
    simp at h; rw [List.drop_of_length_le (by simpa using h)]; rfl
   rw [hh] at hr; simp [eqK] at hr
 have hy : ∃ x, ys[off]? = some x := by
  cases h : ys[off]? with
  | some x => exact ⟨x, rfl⟩
  | none =>
   have hh : (ys.toList.drop off).take 1 = [] := by
    simp at h; rw [List.drop_of_length_le (by simpa using h)]; rfl
   rw [hh] at hr
   have := zdU hr
   simp at this
 obtain ⟨x, hx⟩ := hx
 obtain ⟨y, hy⟩ := hy
 have seg : ∀ (zs : Array Value) z, zs[off]? = some z → (zs.toList.drop off).take 1 = [z] := fun zs z hz => by
  obtain ⟨hlt, hz'⟩ := Array.getElem?_eq_some_iff.1 hz
  rw [List.drop_eq_getElem_cons (by simpa using hlt)]
  simp [hz']
 rw [seg _ _ hx, seg _ _ hy] at hr
 simp only [eqK] at hr
 split at hr <;> try cases hr
 rename_i r0 q h0 hq
 cases hq
 rw [Bool.and_true]
 have hag : ∃ d, P.underlying t = some d ∧ zfR d = false := by
  rcases hu with hu | ⟨_, j, hu⟩
  ·exact ⟨_, hu, by cases k <;> rfl⟩
  ·exact ⟨_, hu, rfl⟩
 obtain ⟨d, hd, hg⟩ := hag
 have e : ∀ (zs : Array Value) z, zs[off]? = some z → (part t zs off).run P w = .ok z w := fun zs z hz => by
  simp [part, zdS hd, hg, hz]
 rw [e _ _ hx]
 simp only [Result.andThen_ok]
 rw [e _ _ hy]
 simp only [Result.andThen_ok]
 unfold eq1K at h0
 split at h0
 ·cases h0
  rcases hu with hu | ⟨hk, _⟩
  ·exact run_equalIn_bool w D t _ _ hu
  ·cases hk
 ·split at h0 <;> cases h0
  rename_i hkk; subst hkk
  have : ∃ j, P.underlying t = some (.int j) := by
   rcases hu with hu | ⟨_, j, hu⟩
   ·exact ⟨_, hu⟩
   ·exact ⟨j, hu⟩
  obtain ⟨j, hj⟩ := this
  exact run_equalIn_int w D t _ j _ _ hj
 ·cases h0
  rcases hu with hu | ⟨hk, _⟩
  ·simp [Op.equalIn, run_underlying hu]
  ·cases hk
 ·cases h0
theorem zhE (D d : Nat) (ih : ∀ t ks, zfb P d t = some ks → (∃ dd, P.underlying t = some dd ∧ zfR dd = true → zfx P t = some ks.length) → zfx P t = some ks.length → EqAt P D t ks) :
  ∀ (fs : List Field) (off : Nat) (ks : List LK), zjp P (zfb P d) off fs = some ks → ∀ (w : World) (xs ys : Array Value) (r : Bool),
   eqK ks (xs.toList.drop off) (ys.toList.drop off) = some r → (Op.eqFields D xs ys fs).run P w = .ok r w
 | [], off, ks, hk, w, xs, ys, r, hr => by
  simp only [zjp, Option.some.injEq] at hk; subst hk
  have := zdU hr
  cases hx : xs.toList.drop off <;> cases hy : ys.toList.drop off <;> simp_all [eqK]
  subst hr; simp [Op.eqFields]
 | f :: fs, off, ks, hk, w, xs, ys, r, hr => by
  simp only [zjp] at hk
  split at hk <;> try cases hk
  rename_i m hm
  split at hk <;> try cases hk
  rename_i hc
  obtain ⟨hname, hoff, hsz⟩ := hc
  cases hq : zjp P (zfb P d) (off + m.length) fs with
  | none => simp [hq] at hk
  | some q =>
   simp only [hq, Option.map_some, Option.some.injEq] at hk
   subst hk
   obtain ⟨l1, l2⟩ := zdU hr
   have sp : ∀ zs : Array Value, (zs.toList.drop off).length = (m ++ q).length → zs.toList.drop off = (zs.toList.drop off).take m.length ++ zs.toList.drop (off + m.length) := fun zs _ => by
    rw [← List.drop_drop, List.take_append_drop]
   rw [sp xs l1, sp ys l2] at hr
   obtain ⟨r1, r2, h1, h2, rfl⟩ := zjq (by simp at l1 ⊢; omega) (by simp at l2 ⊢; omega) hr
   have hat := ih f.type m hm ⟨.bool, fun h => hsz⟩ hsz w xs ys off r1 h1
   have ihf := zhE D d ih fs (off + m.length) q hq w xs ys r2 h2
   subst hoff
   simp only [Op.eqFields, if_pos hname, Sem.run_bind]
   cases hp : (part f.type xs f.offset).run P w with
   | halt x w1 => simp [hp] at hat
   | ok u w1 =>
    simp only [hp, Result.andThen_ok] at hat ⊢
    cases hp2 : (part f.type ys f.offset).run P w1 with
    | halt x w2 => simp [hp2] at hat
    | ok v w2 =>
     simp only [hp2, Result.andThen_ok] at hat ⊢
     rw [hat]
     simp only [Result.andThen_ok]
     cases r1
     ·simp
     ·simpa using ihf
theorem ze4 (D : Nat) (t : TypeId) (m : List LK) (s : Nat) (hs : zfx P t = some s) (hm : s = m.length) (hat : EqAt P D t m) (w : World) (xs ys : Array Value) :
  ∀ (k i : Nat) (r : Bool), eqK (List.replicate k m).flatten ((xs.toList.drop (i * s)).take (k * s)) ((ys.toList.drop (i * s)).take (k * s)) = some r →
   (forIn (List.range' i k) ((none, ()) : Option Bool × Unit) (fun j (_ : Option Bool × Unit) => (do
    if !(← Op.equalIn D t (← part t xs (j * s)) (← part t ys (j * s))) then pure (.done (some false, ())) else pure (.yield (none, ())) : Sem (ForInStep (Option Bool × Unit))))).run P w =
    .ok (if r then none else some false, ()) w
 | 0, i, r, hr => by
  simp [eqK] at hr; subst hr; simp
 | k + 1, i, r, hr => by
  rw [List.replicate_succ, List.flatten_cons] at hr
  have sp : ∀ zs : Array Value, (zs.toList.drop (i * s)).take ((k + 1) * s) = (zs.toList.drop (i * s)).take m.length ++ (zs.toList.drop ((i + 1) * s)).take (k * s) := fun zs => by
   rw [hm, Nat.succ_mul k, Nat.add_comm (k * m.length), List.take_add, List.drop_drop, Nat.succ_mul]
  obtain ⟨l1, l2⟩ := zdU hr
  rw [sp xs, sp ys] at hr
  obtain ⟨r1, r2, h1, h2, rfl⟩ := zjq (by
    simp only [List.length_take, List.length_drop, List.length_append] at l1 ⊢
    rw [hm] at l1 ⊢
    rw [Nat.succ_mul] at l1
    omega) (by
    simp only [List.length_take, List.length_drop, List.length_append] at l2 ⊢
    rw [hm] at l2 ⊢
    rw [Nat.succ_mul] at l2
    omega) hr
  have hat' := hat w xs ys (i * s) r1 h1
  have ih := ze4 D t m s hs hm hat w xs ys k (i + 1) r2 h2
  rw [List.range'_succ]
  simp only [List.forIn_cons, Sem.run_bind]
  cases hp : (part t xs (i * s)).run P w with
  | halt x w1 => simp [hp] at hat'
  | ok u w1 =>
   simp only [hp, Result.andThen_ok] at hat' ⊢
   cases hp2 : (part t ys (i * s)).run P w1 with
   | halt x w2 => simp [hp2] at hat'
   | ok v w2 =>
    simp only [hp2, Result.andThen_ok] at hat' ⊢
    rw [hat']
    simp only [Result.andThen_ok]
    cases r1
    ·simp
    ·simp only [Bool.not_true, Bool.false_eq_true, if_false, Sem.run_pure, Result.andThen_ok, Bool.true_and]
     exact ih
theorem eqWh_array (D : Nat) (t el : TypeId) (len : Nat) (m : List LK) (hu : P.underlying t = some (.array len el)) (hs : zfx P el = some m.length) (hat : EqAt P D el m) : EqWh P (D + 1) t (List.replicate len m).flatten := by
 intro w xs ys r hr
 obtain ⟨l1, l2⟩ := zdU hr
 have hlen : (List.replicate len m).flatten.length = len * m.length := by simp
 have key := ze4 (P := P) D el m m.length hs rfl hat w xs ys len 0 r (by
  simp only [Nat.zero_mul, List.drop_zero]
  rw [List.take_of_length_le (by omega), List.take_of_length_le (by omega)]
  exact hr)
 simp only [Op.equalIn, Sem.run_bind, run_underlying hu, Result.andThen_ok, zah hs]
 rw [Std.Legacy.Range.forIn_eq_forIn_range']
 simp only [Std.Legacy.Range.size, Nat.sub_zero, Nat.add_sub_cancel, Nat.div_one]
 rw [key]
 simp only [Result.andThen_ok]
 cases r <;> rfl
theorem zir : ∀ (d : Nat) (t : TypeId) (ks : List LK) (D : Nat), d ≤ D → zfb P d t = some ks →
  ((∃ dd, P.underlying t = some dd ∧ zfR dd = true) → EqWh P D t ks) ∧ (zfx P t = some ks.length → EqAt P D t ks)
 | 0, t, ks, D, _, h => by simp [zfb] at h
 | d + 1, t, ks, D, hD, h => by
  obtain ⟨D, rfl⟩ : ∃ D', D = D' + 1 := ⟨D - 1, by omega⟩
  simp only [zfb] at h
  split at h
  ·rename_i hu
   cases h
   refine ⟨?_, fun _ => EqAt.leaf (k := .b) (.inl hu)⟩
   rintro ⟨dd, h1, h2⟩
   rw [hu] at h1; cases h1; cases h2
  ·rename_i j hu
   cases h
   refine ⟨?_, fun _ => EqAt.leaf (k := .i) (.inr ⟨rfl, j, hu⟩)⟩
   rintro ⟨dd, h1, h2⟩
   rw [hu] at h1; cases h1; cases h2
  ·rename_i hu
   cases h
   refine ⟨?_, fun _ => EqAt.leaf (k := .s) (.inl hu)⟩
   rintro ⟨dd, h1, h2⟩
   rw [hu] at h1; cases h1; cases h2
  ·rename_i fs hu
   split at h <;> try cases h
   rename_i hst
   have hfs : P.fieldsOf t = fs := by simp [Program.fieldsOf, hu]
   have hw : EqWh P (D + 1) t ks := fun w xs ys r hr => by
    rw [run_equalIn_struct w D t xs ys (by rw [hfs]; exact hu) (by simpa using hst), hfs]
    exact zhE D d (fun t' ks' hl _ hs' => (zir d t' ks' D (by omega) hl).2 hs') fs.toList 0 ks h w xs ys r (by simpa using hr)
   exact ⟨fun _ => hw, fun hs => EqAt.of_whole hu rfl hs hw⟩
  ·rename_i len el hu
   split at h <;> try cases h
   rename_i m hm
   split at h <;> try cases h
   rename_i hs
   have hw := eqWh_array D t el len m hu hs ((zir d el m D (by omega) hm).2 hs)
   exact ⟨fun _ => hw, fun hs => EqAt.of_whole hu rfl hs hw⟩
  ·cases h
theorem SR.leaf {k : LK} {x y : Value} {r : Bool} (hr : eq1K k x y = some r) : zbz x = true ∧ zbz y = true := by
 unfold eq1K at hr
 split at hr <;> simp_all [zbz]
theorem Each.plain {l l' : List Value} (h : Each (SR φ) l l') (hp : ∀ v ∈ l, zbz v = true) : l' = l := by
 apply List.ext_getElem?
 intro i
 cases hi : l[i]? with
 | none => simp at hi ⊢; rw [← h.1]; exact hi
 | some v =>
  obtain ⟨v', h1, h2⟩ := h.get hi
  rw [h1, SR.eq_of_sclf (hp v (List.mem_of_getElem? hi)) h2]
theorem eqK_plain : ∀ {k : List LK} {x y : List Value} {r : Bool}, eqK k x y = some r → (∀ v ∈ x, zbz v = true) ∧ ∀ v ∈ y, zbz v = true
 | [], [], [], _, _ => by simp
 | k :: ks, a :: x, b :: y, r, h => by
  simp only [eqK] at h
  split at h <;> try cases h
  rename_i r0 q h0 hq
  obtain ⟨h1, h2⟩ := eqK_plain hq
  obtain ⟨h3, h4⟩ := SR.leaf h0
  simp only [List.mem_cons]
  exact ⟨fun v hv => hv.elim (fun e => e ▸ h3) (h1 v), fun v hv => hv.elim (fun e => e ▸ h4) (h2 v)⟩
 | [], _ :: _, _, _, h => by simp [eqK] at h
 | [], [], _ :: _, _, h => by simp [eqK] at h
 | _ :: _, [], _, _, h => by simp [eqK] at h
 | _ :: _, _ :: _, [], _, h => by simp [eqK] at h
theorem does_eqa {op : BinOp} {t t' : TypeId} {x y : Operand} {x' y' : Opd} {ks : List LK} {p q : Array Value} {r : Bool} {d : TypeDesc} (he : ∀ x y, opd x = some y → VR φ (e y) (a.eval x)) (H : HR φ h w) (ho : o.op = .binOp op t x y t') (hx : opd x = some x') (hy : opd y = some y')
  (hop : op = .eql ∨ op = .neq) (hu : P.underlying t = some d) (hd : zfR d = true) (hl : zfb P 12 t = some ks) (hg : P.eqGuardType P.depth t = false) (ex : e x' = .agg p) (ey : e y' = .agg q) (hr : eqK ks p.toList q.toList = some r) :
  Does P o a w φ h n (.bool (if (op == .neq) then !r else r)) .no := by
 have h1 := he _ _ hx
 have h2 := he _ _ hy
 rw [ex] at h1
 rw [ey] at h2
 obtain ⟨p', hp', hE1⟩ := h1.agg
 obtain ⟨q', hq', hE2⟩ := h2.agg
 obtain ⟨hp1, hp2⟩ := eqK_plain hr
 have e1 := Each.plain hE1 hp1
 have e2 := Each.plain hE2 hp2
 have hw := (zir (P := P) 12 t ks 10000 (by omega) hl).1 ⟨d, hu, hd⟩ w p' q' r (by rw [e1, e2]; exact hr)
 rcases hop with rfl | rfl
 ·refine Does.same H (v' := .bool r) ?_ (VR.mkBool _)
  simp only [execOp, ho, hp', hq', Sem.run_bind, run_eqGuard_agg w _ t x y p' q' hg, Result.andThen_ok, run_eql_struct, hw, Sem.run_pure]
 ·refine Does.same H (v' := .bool (!r)) ?_ (VR.mkBool _)
  simp only [execOp, ho, hp', hq', Sem.run_bind, run_eqGuard_agg w _ t x y p' q' hg, Result.andThen_ok, run_neq_struct, hw, Sem.run_pure]
end
end Go.Rh

namespace Go.Rh
section
variable {P : Program} {o : Oper} {a : Act} {w : World} {φ : Phi} {h : Nat → Option Blk} {n : Nat} {e : Opd → Value}
theorem isNil_rel {ty : NK} {v v' : Value} {b : Bool} (hb : zf9 ty v = some b) (hr : VR φ v v') : zf9 ty v' = some b := by
 unfold zf9 at hb
 split at hb
 ·rename_i x
  cases x with
  | none => have := hr.plain (by rfl : zbz (.pointer none) = true); subst this; exact hb
  | some x => obtain ⟨x', rfl, _⟩ := VR.pointer hr; exact hb
 ·rename_i x l c
  cases x with
  | none => have := hr.plain (by rfl : zbz (.slice none l c) = true); subst this; exact hb
  | some x => obtain ⟨x', rfl, _⟩ := VR.slice hr; exact hb
 ·rename_i x
  cases x with
  | none => have := hr.plain (by rfl : zbz (.map none) = true); subst this; exact hb
  | some x => obtain ⟨x', rfl, _⟩ := VR.map hr; exact hb
 ·rename_i x
  cases x with
  | none => have := hr.plain (by rfl : zbz (.chan none) = true); subst this; exact hb
  | some x => obtain ⟨x', rfl, _⟩ := VR.chan hr; exact hb
 ·cases hb
def nkOf : TypeDesc → Option NK
 | .pointer _ => some .ptr
 | .slice _ => some .slc
 | .map _ _ => some .map
 | .chan _ _ => some .chn
 | _ => none
theorem run_eqNil1 (D : Nat) {t : TypeId} {d : TypeDesc} {ty : NK} {u v : Value} {r : Bool} (hu : P.underlying t = some d) (hk : nkOf d = some ty) (hr : ziz ty u v = some r) : (Op.equalIn (D + 1) t u v).run P w = .ok r w := by
 cases d <;> simp only [nkOf] at hk <;> try cases hk
 case pointer =>
  cases u <;> simp [ziz, zf9] at hr
  cases v <;> simp at hr
  rename_i x y
  cases x <;> cases y <;> simp at hr <;> subst hr <;> simp [Op.equalIn, run_underlying hu]
 case slice =>
  cases u <;> simp [ziz, zf9] at hr
  cases v <;> simp at hr
  rename_i x _ _ y _ _
  cases x <;> cases y <;> simp at hr <;> subst hr <;> simp [Op.equalIn, run_underlying hu]
 case map =>
  cases u <;> simp [ziz, zf9] at hr
  cases v <;> simp at hr
  rename_i x y
  cases x <;> cases y <;> simp at hr <;> subst hr <;> simp [Op.equalIn, run_underlying hu]
 case chan =>
  cases u <;> simp [ziz, zf9] at hr
  cases v <;> simp at hr
  rename_i x y
  cases x <;> cases y <;> simp at hr <;> subst hr <;> simp [Op.equalIn, run_underlying hu]
theorem eqNil_parts {ty : NK} {u v : Value} {r : Bool} (h : ziz ty u v = some r) : ∃ b c, zf9 ty u = some b ∧ zf9 ty v = some c := by
 unfold ziz at h
 split at h
 ·rename_i b h1 h2; exact ⟨_, _, h1, h2⟩
 ·rename_i b h1 h2; exact ⟨_, _, h1, h2⟩
 ·cases h
theorem eqGuard_nil {ty : NK} {b : Bool} {u v : Value} (h : zf9 ty u = some b) (op : BinOp) (t : TypeId) (x y : Operand) : eqGuard op t x y u v = pure () := by
 unfold zf9 at h
 split at h <;> first | exact eqGuard_at_pointer .. | exact eqGuard_at_slice .. | exact eqGuard_at_map .. | exact eqGuard_at_chan .. | cases h
theorem does_eqn {op : BinOp} {t t' : TypeId} {x y : Operand} {x' y' : Opd} {d : TypeDesc} {ty : NK} {r : Bool} (he : ∀ x y, opd x = some y → VR φ (e y) (a.eval x)) (H : HR φ h w) (ho : o.op = .binOp op t x y t') (hx : opd x = some x') (hy : opd y = some y')
  (hop : op = .eql ∨ op = .neq) (hu : P.underlying t = some d) (hk : nkOf d = some ty) (hr : ziz ty (e x') (e y') = some r) :
  Does P o a w φ h n (.bool (if (op == .neq) then !r else r)) .no := by
 obtain ⟨b, c, h1, h2⟩ := eqNil_parts hr
 have h1' := isNil_rel h1 (he _ _ hx)
 have h2' := isNil_rel h2 (he _ _ hy)
 have hr' : ziz ty (a.eval x) (a.eval y) = some r := by
  unfold ziz at hr ⊢; rw [h1, h2] at hr; rw [h1', h2']; exact hr
 have hw : (Op.equal t (a.eval x) (a.eval y)).run P w = .ok r w := run_eqNil1 (P := P) (w := w) 9999 hu hk hr'
 have hb : ∀ op', op' = .eql ∨ op' = .neq → (binOp op' t (a.eval x) (a.eval y)).run P w = .ok (.bool (if op' == .neq then !r else r)) w := by
  intro op' ho'
  unfold zf9 at h1'
  split at h1' <;> try cases h1'
  all_goals
   rename_i hxx
   rw [hxx] at hw ⊢
   unfold zf9 at h2'
   split at h2' <;> try cases h2'
   all_goals
    rename_i hyy
    rw [hyy] at hw ⊢
    rcases ho' with rfl | rfl <;> simp [binOp, hw]
 refine Does.same H (v' := .bool (if (op == .neq) then !r else r)) ?_ (VR.mkBool _)
 simp [execOp, ho, eqGuard_nil h1', hb op hop]
theorem does_un {op : UnOp} {t : TypeId} {x : Operand} {y : Opd} {v : Value} (he : ∀ x y, opd x = some y → VR φ (e y) (a.eval x)) (H : HR φ h w) (ho : o.op = .unOp op t x) (hx : opd x = some y) (hv : unV op (e y) = some v) : Does P o a w φ h n v .no := by
 have h1 := he _ _ hx
 unfold unV at hv
 split at hv <;> try cases hv
 all_goals
  rename_i hy
  rw [hy] at h1
 ·refine Does.same H ?_ (VR.mkInt _ _)
  simp [execOp, ho, h1.int, Op.unary, Op.intArith]
 ·refine Does.same H ?_ (VR.mkInt _ _)
  simp [execOp, ho, h1.int, Op.unary, Op.intBits]
 ·refine Does.same H ?_ (VR.mkBool _)
  simp [execOp, ho, h1.bool, Op.unary]
theorem does_cvi {s d : TypeId} {ds : TypeDesc} {k j : IntKind} {m : Int} {x : Operand} {y : Opd} (he : ∀ x y, opd x = some y → VR φ (e y) (a.eval x)) (H : HR φ h w) (ho : o.op = .convert s d x) (hx : opd x = some y) (hs : P.underlying s = some ds) (hd : P.underlying d = some (.int k))
  (hv : e y = .int j m) : Does P o a w φ h n (.int k (k.wrap m)) .no := by
 have h1 := he _ _ hx
 rw [hv] at h1
 refine Does.same H (v' := .int k (k.wrap m)) ?_ (VR.mkInt _ _)
 simp [execOp, ho, h1.int, convert, run_underlying hs, run_underlying hd, Conv.intToInt]
theorem does_cst {s d : TypeId} {ds : TypeDesc} {m : ByteArray} {x : Operand} {y : Opd} (he : ∀ x y, opd x = some y → VR φ (e y) (a.eval x)) (H : HR φ h w) (ho : o.op = .convert s d x) (hx : opd x = some y) (hs : P.underlying s = some ds) (hd : P.underlying d = some .string)
  (hv : e y = .string m) : Does P o a w φ h n (.string m) .no := by
 have h1 := he _ _ hx
 rw [hv] at h1
 refine Does.same H (v' := .string m) ?_ (VR.mkString _)
 simp [execOp, ho, h1.string, convert, run_underlying hs, run_underlying hd]
theorem does_fad {s : TypeId} {fs : Array Field} {fd : Field} {i m : Nat} {x : Operand} {y : Opd} {k off : Nat} (he : ∀ x y, opd x = some y → VR φ (e y) (a.eval x)) (H : HR φ h w) (ho : o.op = .fieldAddr s x i) (hx : opd x = some y) (hs : P.underlying s = some (.struct fs))
  (hf : fs[i]? = some fd) (hz : zfx P fd.type = some (m + 1)) (hv : e y = .pointer (some ⟨k, off, none⟩)) : Does P o a w φ h n (.pointer (some ⟨k, off + fd.offset, none⟩)) .no := by
 have h1 := he _ _ hx
 rw [hv] at h1
 obtain ⟨x', hx', _, b, bo, hφ, rfl⟩ := h1.pointer
 refine Does.same H (v' := .pointer (some ⟨b, bo + (off + fd.offset), none⟩)) ?_ ⟨_, rfl, rfl, b, bo, hφ, rfl⟩
 simp [execOp, ho, Instr.fieldAt, run_underlying hs, hf, Instr.sureAddr, hx', fieldPlace, zah hz, Addr.add_lit, Nat.add_assoc]
theorem run_part {t : TypeId} {m : Option Nat} (hm : ldn P t = some m) {c : List Value} {c' : Array Value} (hc : Each (SR φ) c c'.toList) {off : Nat} {v : Value} (hp : zam m c off = some v) : ∃ v', (part t c' off).run P w = .ok v' w ∧ GR φ v v' := by
 obtain ⟨d, i, hd, hi, rfl⟩ := ldn_spec hm
 rcases zji hp with ⟨hm0, hv⟩ | ⟨s, hms, hk, rfl⟩
 ·have hag : zfR d = false := by cases h : zfR d <;> simp [h] at hm0 ⊢
  obtain ⟨v', h1, h2⟩ := hc.get hv
  refine ⟨v', ?_, GR.of_SR h2⟩
  have h1' : c'[off]? = some v' := by simpa using h1
  simp [part, zdS hd, hag, h1']
 ·have hag : zfR d = true := by cases h : zfR d <;> simp [h] at hms ⊢
  have hs : i.size = s := by simpa [hag] using hms
  refine ⟨.agg (c'.extract off (off + s)), ?_, _, rfl, ?_⟩
  ·simp [part, zdS hd, hag, zb6 hi, hs]
  ·have := (hc.drop off).take s
   simpa [Array.toList_extract, List.extract_eq_take_drop] using this
theorem does_fld {s : TypeId} {fs : Array Field} {fd : Field} {i : Nat} {m : Option Nat} {x : Operand} {y : Opd} {c : Array Value} {v : Value} (he : ∀ x y, opd x = some y → VR φ (e y) (a.eval x)) (H : HR φ h w) (ho : o.op = .field s x i) (hx : opd x = some y) (hs : P.underlying s = some (.struct fs))
  (hf : fs[i]? = some fd) (hz : ldn P fd.type = some m) (hy : e y = .agg c) (hv : zam m c.toList fd.offset = some v) : Does P o a w φ h n v .no := by
 have h1 := he _ _ hx
 rw [hy] at h1
 obtain ⟨c', hc', hE⟩ := h1.agg
 obtain ⟨v', hr, hG⟩ := run_part (P := P) (w := w) hz hE hv
 refine Does.same H (v' := v') ?_ (VR.of_GR hG)
 simp [execOp, ho, Instr.field, run_underlying hs, hf, hc', asAgg, hr]
theorem does_iadA {t el : TypeId} {len s : Nat} {x i : Operand} {x' i' : Opd} {k off : Nat} {ik : IntKind} {j : Int} (he : ∀ x y, opd x = some y → VR φ (e y) (a.eval x)) (H : HR φ h w) (ho : o.op = .indexAddr t x i) (hx : opd x = some x') (hi : opd i = some i')
  (hu : P.underlying t = some (.array len el)) (hs : zfx P el = some s) (hv : e x' = .pointer (some ⟨k, off, none⟩)) (hj : e i' = .int ik j) (hb : 0 ≤ j ∧ j < len) : Does P o a w φ h n (.pointer (some ⟨k, off + j.toNat * s, none⟩)) .no := by
 have h1 := he _ _ hx
 have h2 := he _ _ hi
 rw [hv] at h1
 rw [hj] at h2
 obtain ⟨x', hx', _, b, bo, hφ, rfl⟩ := h1.pointer
 refine Does.same H (v' := .pointer (some ⟨b, bo + (off + j.toNat * s), none⟩)) ?_ ⟨_, rfl, rfl, b, bo, hφ, rfl⟩
 simp [execOp, ho, Instr.indexAt, h2.int, asIntOf, run_underlying hu, hx', Instr.sureAddr, zah hs, hb, Addr.add_lit, Nat.add_assoc]
theorem does_iadS {t el : TypeId} {len cap s : Nat} {x i : Operand} {x' i' : Opd} {k off : Nat} {ik : IntKind} {j : Int} (he : ∀ x y, opd x = some y → VR φ (e y) (a.eval x)) (H : HR φ h w) (ho : o.op = .indexAddr t x i) (hx : opd x = some x') (hi : opd i = some i')
  (hu : P.underlying t = some (.slice el)) (hs : zfx P el = some s) (hv : e x' = .slice (some ⟨k, off, none⟩) len cap) (hj : e i' = .int ik j) (hb : 0 ≤ j ∧ j < len) : Does P o a w φ h n (.pointer (some ⟨k, off + j.toNat * s, none⟩)) .no := by
 have h1 := he _ _ hx
 have h2 := he _ _ hi
 rw [hv] at h1
 rw [hj] at h2
 obtain ⟨x', hx', _, b, bo, hφ, rfl⟩ := h1.slice
 refine Does.same H (v' := .pointer (some ⟨b, bo + (off + j.toNat * s), none⟩)) ?_ ⟨_, rfl, rfl, b, bo, hφ, rfl⟩
 simp [execOp, ho, Instr.indexAt, h2.int, asIntOf, run_underlying hu, hx', zah hs, hb, Addr.add_lit, Nat.add_assoc]
theorem does_ixA {t el : TypeId} {len s : Nat} {m : Option Nat} {x i : Operand} {x' i' : Opd} {c : Array Value} {ik : IntKind} {j : Int} {v : Value} (he : ∀ x y, opd x = some y → VR φ (e y) (a.eval x)) (H : HR φ h w) (ho : o.op = .index t x i) (hx : opd x = some x') (hi : opd i = some i')
  (hu : P.underlying t = some (.array len el)) (hs : zfx P el = some s) (hm : ldn P el = some m) (hv : e x' = .agg c) (hj : e i' = .int ik j) (hb : 0 ≤ j ∧ j < len) (hp : zam m c.toList (j.toNat * s) = some v) : Does P o a w φ h n v .no := by
 have h1 := he _ _ hx
 have h2 := he _ _ hi
 rw [hv] at h1
 rw [hj] at h2
 obtain ⟨c', hc', hE⟩ := h1.agg
 obtain ⟨v', hr, hG⟩ := run_part (P := P) (w := w) hm hE hp
 refine Does.same H (v' := v') ?_ (VR.of_GR hG)
 simp [execOp, ho, Instr.index, h2.int, asIntOf, run_underlying hu, hc', zah hs, hb, hr]
theorem does_ixS {t : TypeId} {x i : Operand} {x' i' : Opd} {s : ByteArray} {ik : IntKind} {j : Int} {b : UInt8} (he : ∀ x y, opd x = some y → VR φ (e y) (a.eval x)) (H : HR φ h w) (ho : o.op = .index t x i) (hx : opd x = some x') (hi : opd i = some i')
  (hu : P.underlying t = some .string) (hv : e x' = .string s) (hj : e i' = .int ik j) (hb : 0 ≤ j) (hp : s[j.toNat]? = some b) : Does P o a w φ h n (.int .u8 b.toNat) .no := by
 have h1 := he _ _ hx
 have h2 := he _ _ hi
 rw [hv] at h1
 rw [hj] at h2
 refine Does.same H (v' := .int .u8 b.toNat) ?_ (VR.mkInt _ _)
 simp [execOp, ho, Instr.index, h2.int, asIntOf, run_underlying hu, h1.string, hb, hp]
theorem does_ext {i : Nat} {x : Operand} {y : Opd} {vs : Array Value} {v : Value} (he : ∀ x y, opd x = some y → VR φ (e y) (a.eval x)) (H : HR φ h w) (ho : o.op = .extract x i) (hx : opd x = some y) (hy : e y = .tuple vs) (hv : vs[i]? = some v) : Does P o a w φ h n v .no := by
 have h1 := he _ _ hx
 rw [hy] at h1
 obtain ⟨vs', hvs, hE⟩ := h1.tuple
 obtain ⟨v', h2, h3⟩ := hE.get (i := i) (v := v) (by simpa using hv)
 refine Does.same H (v' := v') ?_ (VR.of_GR h3)
 have h2' : vs'[i]? = some v' := by simpa using h2
 simp [execOp, ho, hvs, Instr.extract, h2']
theorem does_mm {b : Bool} {t : TypeId} {ts : Array TypeId} {x y : Operand} {x' y' : Opd} {j k : IntKind} {p q : Int} (he : ∀ x y, opd x = some y → VR φ (e y) (a.eval x)) (H : HR φ h w)
  (ho : o.op = .call { callee := .builtin (if b then .max else .min), args := #[x, y], argTypes := ts }) (hx : opd x = some x') (hy : opd y = some y') (ex : e x' = .int j p) (ey : e y' = .int k q) :
  Does P o a w φ h n (.int j (if b then (if q > p then q else p) else (if q < p then q else p))) .no := by
 have h1 := he _ _ hx
 have h2 := he _ _ hy
 rw [ex] at h1
 rw [ey] at h2
 refine Does.same H (v' := .int j (if b then (if q > p then q else p) else (if q < p then q else p))) ?_ (VR.mkInt _ _)
 cases b <;> simp [execOp, ho, resolve, invoke, builtin, h1.int, h2.int, Builtin.max_, Builtin.min_, Builtin.max2, Builtin.min2]
theorem does_lenS {t ty el : TypeId} {x : Operand} {y : Opd} {p : Option Addr} {l c : Nat} (he : ∀ x y, opd x = some y → VR φ (e y) (a.eval x)) (H : HR φ h w) (ho : o.op = .call { callee := .builtin .len, args := #[x], argTypes := #[t] }) (hx : opd x = some y)
  (hu : P.underlying t = some (.slice el)) (hy : e y = .slice p l c) : Does P o a w φ h n (.int .i64 l) .no := by
 have h1 := he _ _ hx
 rw [hy] at h1
 refine Does.same H (v' := .int .i64 l) ?_ (VR.mkInt _ _)
 cases p with
 | none => have h2 := h1.sliceNil; simp [execOp, ho, resolve, invoke, builtin, Builtin.len_, run_underlying hu, h2, goInt]
 | some p => obtain ⟨x', hx', _⟩ := h1.slice; simp [execOp, ho, resolve, invoke, builtin, Builtin.len_, run_underlying hu, hx', goInt]
theorem does_lenT {t : TypeId} {x : Operand} {y : Opd} {s : ByteArray} (he : ∀ x y, opd x = some y → VR φ (e y) (a.eval x)) (H : HR φ h w) (ho : o.op = .call { callee := .builtin .len, args := #[x], argTypes := #[t] }) (hx : opd x = some y)
  (hu : P.underlying t = some .string) (hy : e y = .string s) : Does P o a w φ h n (.int .i64 s.size) .no := by
 have h1 := he _ _ hx
 rw [hy] at h1
 refine Does.same H (v' := .int .i64 s.size) ?_ (VR.mkInt _ _)
 simp [execOp, ho, resolve, invoke, builtin, Builtin.len_, run_underlying hu, h1.string, goInt]
end
end Go.Rh

namespace Go.Rh
section
variable {P : Program} {o : Oper} {a : Act} {w : World} {φ : Phi} {h : Nat → Option Blk} {n : Nat} {e : Opd → Value}
def OR (φ : Phi) : Option Value → Option Value → Prop
 | none, none => True
 | some v, some v' => VR φ v v'
 | _, _ => False
theorem OR.of (he : ∀ x y, opd x = some y → VR φ (e y) (a.eval x)) {x : Option Operand} {y : Option Opd} (hx : opdO x = some y) : OR φ (y.map e) (x.map a.eval) := by
 cases x with
 | none => simp [opdO] at hx; subst hx; trivial
 | some x =>
  simp only [opdO, Option.map_eq_some_iff] at hx
  obtain ⟨z, hz, rfl⟩ := hx
  exact he _ _ hz
theorem zg2 {y m : Nat} {v v' : Value} (h : bnd y v = some m) (hr : VR φ v v') (code : BoundsCode) : (Instr.sliceBound v' y code).run P w = .ok m w := by
 unfold bnd at h
 split at h <;> try cases h
 rename_i k i
 split at h <;> cases h
 rename_i hb
 rw [hr.int]
 simp [Instr.sliceBound, asIntOf, hb]
theorem zhP {len cap : Nat} {lo hi mx lo' hi' mx' : Option Value} {r : Nat × Nat × Nat} (hr : bnds len cap lo hi mx = some r) (h1 : OR φ lo lo') (h2 : OR φ hi hi') (h3 : OR φ mx mx') (b : Bool) :
  (Instr.sliceBounds b len cap lo' hi' mx').run P w = .ok r w := by
 unfold bnds at hr
 split at hr <;> try cases hr
 rename_i m hm
 split at hr <;> try cases hr
 rename_i hh hhi
 split at hr <;> try cases hr
 rename_i l hl
 unfold Instr.sliceBounds
 cases mx <;> cases mx' <;> simp only [OR] at h3
 ·cases hm
  cases hi <;> cases hi' <;> simp only [OR] at h2
  ·cases hhi
   cases lo <;> cases lo' <;> simp only [OR] at h1
   ·cases hl; simp
   ·simp [zg2 hl h1]
  ·have e2 := zg2 (P := P) (w := w) hhi h2
   cases lo <;> cases lo' <;> simp only [OR] at h1
   ·cases hl; simp [e2]
   ·simp [e2, zg2 hl h1]
 ·have e1 := zg2 (P := P) (w := w) hm h3
  cases hi <;> cases hi' <;> simp only [OR] at h2
  ·cases hhi
  ·have e2 := zg2 (P := P) (w := w) hhi h2
   cases lo <;> cases lo' <;> simp only [OR] at h1
   ·cases hl; simp [e1, e2]
   ·simp [e1, e2, zg2 hl h1]
theorem AddrR.addA {x x' : Addr} (hA : AddrR φ x x') (s : Nat) : AddrR φ (addA x s) (x'.add s) := by
 obtain ⟨hs, b, o, hφ, rfl⟩ := hA
 refine ⟨rfl, b, o, hφ, ?_⟩
 rw [Addr.add_lit]
 simp [Go.Rh.addA, Nat.add_assoc]
theorem slcV_rel {size : Nat} {x x' : Value} {lo hi mx lo' hi' mx' : Option Value} {v : Value} (hv : slcV size x lo hi mx = some v) (hx : VR φ x x') (h1 : OR φ lo lo') (h2 : OR φ hi hi') (h3 : OR φ mx mx') :
  ∃ b b' len cap l hh m, x = .slice b len cap ∧ x' = .slice b' len cap ∧ bnds len cap lo hi mx = some (l, hh, m) ∧ VR φ v (.slice (if m = l then b' else b'.map (·.add (l * size))) (hh - l) (m - l)) := by
 unfold slcV at hv
 split at hv <;> try cases hv
 rename_i b len cap
 split at hv <;> try cases hv
 rename_i l hh m hb
 cases b with
 | none =>
  have := hx.sliceNil
  refine ⟨none, none, len, cap, l, hh, m, rfl, this, hb, ?_⟩
  simp only [Option.map_none, ite_self]
  exact VR.of_sclf rfl
 | some b =>
  obtain ⟨b', hb', hA⟩ := hx.slice
  refine ⟨some b, some b', len, cap, l, hh, m, rfl, hb', hb, ?_⟩
  by_cases hml : m = l
  ·simp only [if_pos hml]; exact ⟨b', rfl, hA⟩
  ·simp only [if_neg hml, Option.map_some]; exact ⟨_, rfl, hA.addA _⟩
theorem does_slcS {t el : TypeId} {s : Nat} {x : Operand} {lo hi mx : Option Operand} {x' : Opd} {lo' hi' mx' : Option Opd} {v : Value} (he : ∀ x y, opd x = some y → VR φ (e y) (a.eval x)) (H : HR φ h w) (ho : o.op = .slice t x lo hi mx) (hx : opd x = some x')
  (h1 : opdO lo = some lo') (h2 : opdO hi = some hi') (h3 : opdO mx = some mx') (hu : P.underlying t = some (.slice el)) (hs : zfx P el = some s) (hv : slcV s (e x') (lo'.map e) (hi'.map e) (mx'.map e) = some v) : Does P o a w φ h n v .no := by
 obtain ⟨b, b', len, cap, l, hh, m, hb1, hb2, hb3, hV⟩ := slcV_rel hv (he _ _ hx) (OR.of he h1) (OR.of he h2) (OR.of he h3)
 refine Does.same H (v' := .slice (if m = l then b' else b'.map (·.add (l * s))) (hh - l) (m - l)) ?_ hV
 simp [execOp, ho, Instr.sliceAt, Instr.slice, run_underlying hu, hb2, zhP hb3 (OR.of he h1) (OR.of he h2) (OR.of he h3), zah hs]
theorem does_slcA {t el : TypeId} {s len : Nat} {x : Operand} {lo hi mx : Option Operand} {x' : Opd} {lo' hi' mx' : Option Opd} {v : Value} {k off : Nat} (he : ∀ x y, opd x = some y → VR φ (e y) (a.eval x)) (H : HR φ h w) (ho : o.op = .slice t x lo hi mx) (hx : opd x = some x')
  (h1 : opdO lo = some lo') (h2 : opdO hi = some hi') (h3 : opdO mx = some mx') (hu : P.underlying t = some (.array len el)) (hs : zfx P el = some s) (hxe : e x' = .pointer (some ⟨k, off, none⟩))
  (hv : slcV s (.slice (some ⟨k, off, none⟩) len len) (lo'.map e) (hi'.map e) (mx'.map e) = some v) : Does P o a w φ h n v .no := by
 have hp := he _ _ hx
 rw [hxe] at hp
 obtain ⟨p', hp', hA⟩ := hp.pointer
 obtain ⟨b, b', len', cap, l, hh, m, hb1, hb2, hb3, hV⟩ := slcV_rel (φ := φ) (x' := .slice (some p') len len) hv ⟨p', rfl, hA⟩ (OR.of he h1) (OR.of he h2) (OR.of he h3)
 cases hb1; cases hb2
 refine Does.same H (v' := .slice (if m = l then some p' else (some p').map (·.add (l * s))) (hh - l) (m - l)) ?_ hV
 by_cases hml : m = l
 ·simp [execOp, ho, Instr.sliceAt, run_underlying hu, hp', Instr.sureAddr, zhP hb3 (OR.of he h1) (OR.of he h2) (OR.of he h3), zah hs, hml]
 ·simp [execOp, ho, Instr.sliceAt, run_underlying hu, hp', Instr.sureAddr, zhP hb3 (OR.of he h1) (OR.of he h2) (OR.of he h3), zah hs, hml]
theorem does_slcT {t : TypeId} {x : Operand} {lo hi : Option Operand} {x' : Opd} {lo' hi' : Option Opd} {st : ByteArray} {l hh m : Nat} (he : ∀ x y, opd x = some y → VR φ (e y) (a.eval x)) (H : HR φ h w) (ho : o.op = .slice t x lo hi none) (hx : opd x = some x')
  (h1 : opdO lo = some lo') (h2 : opdO hi = some hi') (hu : P.underlying t = some .string) (hxe : e x' = .string st) (hv : bnds st.size st.size (lo'.map e) (hi'.map e) none = some (l, hh, m)) : Does P o a w φ h n (.string (st.extract l hh)) .no := by
 have hp := he _ _ hx
 rw [hxe] at hp
 refine Does.same H (v' := .string (st.extract l hh)) ?_ (VR.mkString _)
 have := zhP (P := P) (w := w) hv (OR.of he h1) (OR.of he h2) (show OR φ none none from trivial) false
 simp [execOp, ho, Instr.sliceAt, Instr.slice, run_underlying hu, hp.string, this]
theorem zhX {x : Int} (h0 : 0 ≤ x) (h1 : x ≤ 2 ^ 48) : i64.wrap x = x := by
 exact IntWalk.i64_in x (by omega)
theorem does_mks {t el : TypeId} {i : TypeInfo} {z : RL} {x y : Operand} {x' y' : Opd} {j k : IntKind} {l c : Int} (he : ∀ x y, opd x = some y → VR φ (e y) (a.eval x)) (H : HR φ h w) (hn : h n = none) (ho : o.op = .makeSlice t x y) (hx : opd x = some x') (hy : opd y = some y')
  (hu : P.underlying t = some (.slice el)) (hi : P.info? el = some i) (hz : zcE P el = some z) (ex : e x' = .int j l) (ey : e y' = .int k c) (hb : 0 ≤ l ∧ l ≤ c ∧ i.bytes * c ≤ 2 ^ 48 ∧ c ≤ 2 ^ 48) :
  Does P o a w φ h n (.slice (some ⟨n, 0, none⟩) l.toNat c.toNat) (.push (.cells (List.replicate c.toNat (qI z)).flatten true)) := by
 have h1 := he _ _ hx
 have h2 := he _ _ hy
 rw [ex] at h1
 rw [ey] at h2
 obtain ⟨i', zv, hi', hzv, hcz, hp, hsz⟩ := zbI hz
 rw [hi] at hi'; cases hi'
 have hzs : zv.cells.size = i.size := by
  have := congrArg List.length hcz
  simp at this; omega
 have hrow : ((Array.range (c.toNat * i.size)).map (fun j => zv.cells[j % zv.cells.size]!)).toList = (List.replicate c.toNat (qI z)).flatten := by
  rw [← hzs, zero_row, hcz]
 have wl := zhX (x := l) hb.1 (by omega)
 have wc := zhX (x := c) (by omega) hb.2.2.2
 have hE : Each (SR φ) (List.replicate c.toNat (qI z)).flatten ((Array.range (c.toNat * i.size)).map (fun j => zv.cells[j % zv.cells.size]!)).toList := by
  rw [hrow]
  exact Each.refl_of fun v hv => SR.of_sclf (hp v (by
   simp only [List.mem_flatten, List.mem_replicate] at hv
   obtain ⟨l, ⟨_, rfl⟩, hv⟩ := hv
   exact hv))
 refine Does.push H hn (.cells ((Array.range (c.toNat * i.size)).map (fun j => zv.cells[j % zv.cells.size]!)) el) (v' := .slice (some ⟨w.heap.size, 0, none⟩) l.toNat c.toNat) ?_ (BR.new (hE.mono fun _ _ => SR.mono (Le.upd (H.nil n hn) _)) true) ⟨_, rfl, rfl, w.heap.size, 0, by simp [zdZ], by simp⟩
 have hc0 : ¬ c < 0 := by omega
 have hl0 : ¬ l < 0 := by omega
 have hlc : ¬ c < l := by omega
 have hbig : ¬ ((i.bytes : Int) * c > 281474976710656) := by omega
 by_cases h0 : c.toNat * i.size = 0
 ·simp [execOp, ho, Instr.makeSlice, run_underlying hu, h1.int, h2.int, asInt, asIntOf, zcF hi, wl, wc, hc0, hl0, hlc, hbig, zb6 hi, h0, newRow, Array.range_zero']
 ·simp [execOp, ho, Instr.makeSlice, run_underlying hu, h1.int, h2.int, asInt, asIntOf, zcF hi, wl, wc, hc0, hl0, hlc, hbig, zb6 hi, zaS hi hzv, h0, newRow]
end
end Go.Rh

namespace Go.Rh
section
variable {P : Program} {o : Oper} {a : Act} {w : World} {φ : Phi} {h : Nat → Option Blk} {n : Nat} {e : Opd → Value}
theorem ze5 (H : HR φ h w) {size m : Nat} {v v' : Value} {c : List Value} (hf : first h size m v = some c) (hv : VR φ v v') : ∃ c', (Builtin.firstCells size m v').run P w = .ok c' w ∧ Each (SR φ) c c'.toList := by
 unfold first at hf
 split at hf
 ·rename_i k off l cp
  split at hf <;> try cases hf
  rename_i cs r hk
  split at hf <;> cases hf
  rename_i hb
  obtain ⟨x', rfl, _, b, bo, hφ, rfl⟩ := hv.slice
  obtain ⟨b', o', hφ', hB⟩ := H.has k _ hk
  rw [hφ] at hφ'; cases hφ'
  obtain ⟨c', hr, hE⟩ := hB.seg (P := P) off (m * size) hb
  exact ⟨c', hr, hE⟩
 ·cases hf
  rw [hv.sliceNil]
  exact ⟨#[], rfl, Each.nil _⟩
 ·cases hf
  rw [hv.string]
  refine ⟨_, rfl, ?_⟩
  rw [Array.toList_map]
  exact Each.refl_of fun v hv => by
   obtain ⟨b, _, rfl⟩ := List.mem_map.1 hv
   exact SR.of_sclf rfl
 ·cases hf
theorem run_lenOf {v v' : Value} {l : Nat} (hl : lenV v = some l) (hv : VR φ v v') : (Builtin.lenOf v').run P w = .ok l w := by
 unfold lenV at hl
 split at hl <;> cases hl
 ·rename_i p c
  cases p with
  | none => rw [hv.sliceNil]; rfl
  | some p => obtain ⟨x', rfl, _⟩ := hv.slice; rfl
 ·rw [hv.string]; rfl
theorem does_cpy {dt st ty el : TypeId} {s : Nat} {x y : Operand} {x' y' : Opd} {p : Option Addr} {dl dc sl : Nat} {c : List Value} {f : Eff} (he : ∀ x y, opd x = some y → VR φ (e y) (a.eval x)) (H : HR φ h w)
  (ho : o.op = .call { callee := .builtin .copy, args := #[x, y], argTypes := #[dt, st] }) (hx : opd x = some x') (hy : opd y = some y') (hu : P.underlying dt = some (.slice el)) (hs : zfx P el = some s)
  (ex : e x' = .slice p dl dc) (hl : lenV (e y') = some sl) (hc : first h s (min sl dl) (e y') = some c)
  (hf : (p = none ∧ f = .no) ∨ ∃ k off old, p = some ⟨k, off, none⟩ ∧ h k = some (.cells old true) ∧ off + c.length ≤ old.length ∧ f = .set k (.cells (splice old off c) true)) :
  Does P o a w φ h n (.int .i64 (min sl dl : Nat)) f := by
 have h1 := he _ _ hx
 have h2 := he _ _ hy
 rw [ex] at h1
 have hlo := run_lenOf (P := P) (w := w) hl h2
 obtain ⟨c', hc', hE⟩ := ze5 (P := P) H hc h2
 rcases hf with ⟨rfl, rfl⟩ | ⟨k, off, old, rfl, hk, hb, rfl⟩
 ·refine Does.same H (v' := .int .i64 (min sl dl : Nat)) ?_ (VR.mkInt _ _)
  have hc2 : (Builtin.firstCells s (sl.min dl) (a.eval y)).run P w = .ok c' w := hc'
  simp [execOp, ho, resolve, invoke, builtin, Builtin.copy_, run_underlying hu, h1.sliceNil, hlo, zah hs, hc2, goInt]
 ·obtain ⟨x2, hx2, _, b, bo, hφ, rfl⟩ := h1.slice
  obtain ⟨w', hr, h3, h4⟩ := zf5 (P := P) (off := off) H hk hφ hE (by omega)
  refine ⟨φ, .int .i64 (min sl dl : Nat), w', .inl ?_, VR.mkInt _ _, h3, h4⟩
  have hc2 : (Builtin.firstCells s (sl.min dl) (a.eval y)).run P w = .ok c' w := hc'
  simp [execOp, ho, resolve, invoke, builtin, Builtin.copy_, run_underlying hu, hx2, hlo, zah hs, hc2, hr, goInt]
theorem zhG : ∀ {l : List Value} {r : List UInt8}, zgp l = some r → ∃ ns : List Int, l = ns.map (.int .u8 ·) ∧ r = ns.map (fun n => UInt8.ofNat n.toNat)
 | [], r, h => by simp [zgp] at h; subst h; exact ⟨[], rfl, rfl⟩
 | v :: l, r, h => by
  unfold zgp at h
  split at h
  ·rename_i he; cases he
  ·rename_i m q he
   cases he
   cases hq : zgp l with
   | none => simp [hq] at h
   | some r' =>
    obtain ⟨ns, rfl, rfl⟩ := zhG hq
    simp [hq] at h
    subst h
    exact ⟨m :: ns, rfl, rfl⟩
  ·cases h
theorem run_push (w : World) (f : Value → ByteArray → Sem (ForInStep ByteArray)) (hf : ∀ m s, f (.int .u8 m) s = pure (.yield (s.push (UInt8.ofNat m.toNat)))) : ∀ (ns : List Int) (s0 : ByteArray), (forIn (ns.map (Value.int .u8 ·)) s0 f).run P w = .ok ⟨s0.data ++ (ns.map (fun n => UInt8.ofNat n.toNat)).toArray⟩ w
 | [], s0 => by simp
 | m :: ns, s0 => by
  simp only [List.map_cons, List.forIn_cons, Sem.run_bind, Sem.run_pure, Result.andThen_ok, hf]
  rw [run_push w f hf ns]
  congr 1
  simp [ByteArray.push]
theorem does_cbs {s d el : TypeId} {x : Operand} {y : Opd} {p : Option Addr} {l cp : Nat} {r : ByteArray} (he : ∀ x y, opd x = some y → VR φ (e y) (a.eval x)) (H : HR φ h w) (ho : o.op = .convert s d x) (hx : opd x = some y) (hs : P.underlying s = some (.slice el)) (hd : P.underlying d = some .string)
  (hel : P.underlying el = some (.int .u8)) (hv : e y = .slice p l cp) (hr : (p = none ∧ r = .empty) ∨ ∃ k off c q, p = some ⟨k, off, none⟩ ∧ first h 1 l (.slice (some ⟨k, off, none⟩) l cp) = some c ∧ zgp c = some q ∧ r = ⟨q.toArray⟩) :
  Does P o a w φ h n (.string r) .no := by
 have h1 := he _ _ hx
 rw [hv] at h1
 refine Does.same H (v' := .string r) ?_ (VR.mkString _)
 rcases hr with ⟨rfl, rfl⟩ | ⟨k, off, c, q, rfl, hc, hq, rfl⟩
 ·simp [execOp, ho, convert, run_underlying hs, run_underlying hd, run_underlying hel, h1.sliceNil, Conv.bytesToString]
 ·obtain ⟨c', hc', hE⟩ := ze5 (P := P) H hc h1
  obtain ⟨x2, hx2, _, b, bo, hφ, rfl⟩ := h1.slice
  obtain ⟨ns, rfl, rfl⟩ := zhG hq
  have hcc : c'.toList = ns.map (.int .u8 ·) := Each.plain hE (by intro v hv; obtain ⟨b, _, rfl⟩ := List.mem_map.1 hv; rfl)
  rw [hx2] at hc'
  simp only [Builtin.firstCells, Nat.mul_one] at hc'
  simp only [execOp, ho, convert, run_underlying hs, run_underlying hd, hx2, Sem.run_bind, Result.andThen_ok, run_underlying hel, Conv.bytesToString, hc']
  have key : ∀ f : Value → ByteArray → Sem (ForInStep ByteArray), (∀ m s, f (.int .u8 m) s = pure (.yield (s.push (UInt8.ofNat m.toNat)))) → (forIn c' ByteArray.empty f).run P w = .ok ⟨(ns.map (fun n => UInt8.ofNat n.toNat)).toArray⟩ w := fun f hf => by
   have := run_push (P := P) w f hf ns ByteArray.empty
   rw [← hcc, Array.forIn_toList] at this
   rw [this]
   simp
  rw [key _ (fun _ _ => rfl)]
  simp
theorem does_mkm {t : TypeId} (H : HR φ h w) (hn : h n = none) (ho : o.op = .makeMap t none) : Does P o a w φ h n (.map (some n)) (.push (.map [])) := by
 refine Does.push H hn (.map #[] 0) (v' := .map (some w.heap.size)) ?_ ⟨rfl, #[], 0, heap_alloc_new w _, Each.nil _, Each.nil _, rfl, rfl⟩ ⟨w.heap.size, rfl, by simp [zdZ]⟩
 simp [execOp, ho, Instr.makeMap]
theorem does_mkc {t el : TypeId} {dir : ChanDir} {i : TypeInfo} {m : Nat} (H : HR φ h w) (hn : h n = none) (ho : o.op = .makeChan t (.const (.int .i64 m))) (hu : P.underlying t = some (.chan dir el)) (hi : P.info? el = some i) (hb : i.bytes * m ≤ 2 ^ 48 - 112) (hm : m < 1000000) :
  Does P o a w φ h n (.chan (some n)) (.push (.chan m [])) := by
 refine Does.push H hn (.chan m #[] false 0 0 false) (v' := .chan (some w.heap.size)) ?_ ⟨rfl, #[], 0, 0, heap_alloc_new w _, Each.nil _⟩ ⟨w.heap.size, rfl, by simp [zdZ]⟩
 have h1 : ¬ ((m : Int) < 0) := by omega
 have h2 : ¬ ((m : Int) > 9223372036854775807) := by omega
 have h3 : ¬ ((i.bytes : Int) * (m : Int) > 281474976710544) := by
  have : ((i.bytes * m : Nat) : Int) ≤ 281474976710544 := by omega
  simpa using this
 simp [execOp, ho, Act.eval, Instr.makeChan, asInt, asIntOf, run_underlying hu, zcF hi, h1, h2, h3]
theorem does_lenM {t ty k el : TypeId} {x : Operand} {y : Opd} {m : Nat} (he : ∀ x y, opd x = some y → VR φ (e y) (a.eval x)) (H : HR φ h w) (ho : o.op = .call { callee := .builtin .len, args := #[x], argTypes := #[t] }) (hx : opd x = some y)
  (hu : P.underlying t = some (.map k el)) (hy : (e y = .map none ∧ m = 0) ∨ ∃ r es, e y = .map (some r) ∧ h r = some (.map es) ∧ m = es.length) : Does P o a w φ h n (.int .i64 m) .no := by
 have h1 := he _ _ hx
 refine Does.same H (v' := .int .i64 m) ?_ (VR.mkInt _ _)
 rcases hy with ⟨hy, rfl⟩ | ⟨r, es, hy, hr, rfl⟩ <;> rw [hy] at h1
 ·simp [execOp, ho, resolve, invoke, builtin, Builtin.len_, run_underlying hu, h1.mapNil, goInt]
 ·obtain ⟨b, hb, hφ⟩ := h1.map
  obtain ⟨b', o', hφ', _, ms, cl, hw, hE1, _⟩ := H.has r _ hr
  rw [hφ] at hφ'; cases hφ'
  have hl : ms.size = es.length := by have := hE1.1; simp at this; omega
  simp [execOp, ho, resolve, invoke, builtin, Builtin.len_, run_underlying hu, hb, getObj, Sem.run, hw, goInt, hl]
theorem does_lenC {t ty el : TypeId} {dir : ChanDir} {x : Operand} {y : Opd} {r cap : Nat} {bf : List Value} (he : ∀ x y, opd x = some y → VR φ (e y) (a.eval x)) (H : HR φ h w) (ho : o.op = .call { callee := .builtin .len, args := #[x], argTypes := #[t] }) (hx : opd x = some y)
  (hu : P.underlying t = some (.chan dir el)) (hy : e y = .chan (some r)) (hr : h r = some (.chan cap bf)) : Does P o a w φ h n (.int .i64 bf.length) .no := by
 have h1 := he _ _ hx
 rw [hy] at h1
 refine Does.same H (v' := .int .i64 bf.length) ?_ (VR.mkInt _ _)
 obtain ⟨b, hb, hφ⟩ := h1.chan
 obtain ⟨b', o', hφ', _, bf', s, q, hw, hE1⟩ := H.has r _ hr
 rw [hφ] at hφ'; cases hφ'
 have hl : bf'.size = bf.length := by have := hE1.1; simp at this; omega
 simp [execOp, ho, resolve, invoke, builtin, Builtin.len_, run_underlying hu, hb, getObj, Sem.run, hw, goInt, hl]
theorem find_none {kt : LK} {k : Value} {es : List (Value × Value)} (hf : ziS kt k es = some none) : ∀ x ∈ es, zdv kt k x.1 = some false := by
 induction es with
 | nil => simp
 | cons x es ih =>
  simp only [ziS] at hf
  split at hf <;> try cases hf
  rename_i hs
  split at hf <;> try cases hf
  rename_i h2
  intro y hy
  rcases List.mem_cons.1 hy with rfl | hy
  ·exact hs
  ·exact ih h2 y hy
theorem find_some {kt : LK} {k : Value} : ∀ {es : List (Value × Value)} {i : Nat}, ziS kt k es = some (some i) → (∃ x, es[i]? = some x ∧ zdv kt k x.1 = some true) ∧ ∀ (j : Nat) x, j < i → es[j]? = some x → zdv kt k x.1 = some false
 | [], i, hf => by simp [ziS] at hf
 | x :: es, i, hf => by
  simp only [ziS] at hf
  split at hf <;> try cases hf
  ·rename_i hs
   exact ⟨⟨x, rfl, hs⟩, fun j _ hj => by omega⟩
  ·rename_i hs
   split at hf <;> cases hf
   rename_i i h2
   obtain ⟨⟨y, h3, h4⟩, h5⟩ := find_some h2
   refine ⟨⟨y, by simpa using h3, h4⟩, fun j z hj hz => ?_⟩
   cases j with
   | zero => simp at hz; subst hz; exact hs
   | succ j => exact h5 j z (by omega) (by simpa using hz)
def keyTy (kt : LK) (d : TypeDesc) : Prop := match kt with
 | .i => ∃ k, d = .int k
 | .s => d = .string
 | .b => False
theorem zgZ {kt : LK} {d : TypeDesc} (hd : keyTy kt d) {u v u' v' : Value} {r : Bool} (hs : zdv kt u v = some r) (hu : VR φ u u') (hv : GR φ v v') : Instr.sameNow d u' v' = some r ∧ u' = u ∧ v' = v := by
 unfold zdv at hs
 split at hs <;> try cases hs
 ·split at hs <;> cases hs
  rename_i hk; subst hk
  obtain ⟨k, rfl⟩ := hd
  have := hv.2
  rw [hu.int, hv.2]
  simp [Instr.sameNow]
 ·cases hd
  rw [hu.string, hv.2]
  simp [Instr.sameNow]
theorem sameKey_eq {kt : LK} {u v : Value} (h : zdv kt u v = some true) : u = v := by
 unfold zdv at h
 split at h
 ·split at h <;> simp_all
 ·rename_i x y
  obtain ⟨x⟩ := x
  obtain ⟨y⟩ := y
  have h' := Option.some.inj h
  change (x == y) = true at h'
  have : x = y := by simpa using h'
  rw [this]
 ·cases h
theorem zgz {kt : LK} {u v : Value} {r : Bool} (h : zdv kt u v = some r) : (∃ k q, u = .int k q) ∨ ∃ q, u = .string q := by
 unfold zdv at h
 split at h
 ·exact .inl ⟨_, _, rfl⟩
 ·exact .inr ⟨_, rfl⟩
 ·cases h
theorem zfg {kt : LK} {d : TypeDesc} (hd : keyTy kt d) {k k' : Value} (hk : VR φ k k') : ∀ (es : List (Value × Value)) (ms : List MapEntry) (j : Nat), Each (GR φ) (es.map (·.1)) (ms.map (·.key)) → ziS kt k es = some none → Instr.findNow d k' ms j = some none
 | [], [], j, _, _ => rfl
 | x :: es, m :: ms, j, hE, hf => by
  simp only [List.map_cons] at hE
  have h1 := find_none hf x (by simp)
  obtain ⟨h2, _, _⟩ := zgZ hd h1 hk hE.head
  simp only [Instr.findNow, h2]
  refine zfg hd hk es ms (j + 1) hE.tail ?_
  simp only [ziS, h1] at hf
  split at hf <;> first | cases hf; done | (rename_i h2; exact h2) | skip
  all_goals simp_all
 | [], _ :: _, _, hE, _ => by have := hE.1; simp at this
 | _ :: _, [], _, hE, _ => by have := hE.1; simp at this
theorem zff {kt : LK} {d : TypeDesc} (hd : keyTy kt d) {k k' : Value} (hk : VR φ k k') : ∀ (es : List (Value × Value)) (ms : List MapEntry) (j i : Nat), Each (GR φ) (es.map (·.1)) (ms.map (·.key)) → ziS kt k es = some (some i) →
  ∃ m, ms[i]? = some m ∧ Instr.findNow d k' ms j = some (some (j + i, m.val)) ∧ m.key = k'
 | [], _, j, i, _, hf => by simp [ziS] at hf
 | x :: es, m :: ms, j, i, hE, hf => by
  simp only [List.map_cons] at hE
  simp only [ziS] at hf
  split at hf <;> try cases hf
  ·rename_i hs
   obtain ⟨h2, h3, h4⟩ := zgZ hd hs hk hE.head
   refine ⟨m, rfl, by simp [Instr.findNow, h2], ?_⟩
   rw [h3, h4, sameKey_eq hs]
  ·rename_i hs
   split at hf <;> cases hf
   rename_i i h2
   obtain ⟨h3, _, _⟩ := zgZ hd hs hk hE.head
   obtain ⟨m', h4, h5, h6⟩ := zff hd hk es ms (j + 1) i hE.tail h2
   refine ⟨m', by simpa using h4, ?_, h6⟩
   simp only [Instr.findNow, h3, h5]
   congr 3
   omega
 | _ :: _, [], _, _, hE, _ => by have := hE.1; simp at this
theorem keyK_spec {t : TypeId} {kt : LK} (hk : keyK P t = some kt) : ∃ d, P.underlying t = some d ∧ keyTy kt d := by
 unfold keyK at hk
 split at hk <;> cases hk
 ·rename_i k hu; exact ⟨_, hu, k, rfl⟩
 ·rename_i hu; exact ⟨_, hu, rfl⟩
theorem zhw {t : TypeId} {kt : LK} {d : TypeDesc} (hu : P.underlying t = some d) (hd : keyTy kt d) (b : Bool) (D : Nat) (v : Value) : (Instr.checkKey b (D + 1) t v).run P w = .ok () w := by
 cases kt <;> simp only [keyTy] at hd
 ·obtain ⟨k, rfl⟩ := hd; simp [Instr.checkKey, run_underlying hu]
 ·subst hd; simp [Instr.checkKey, run_underlying hu]
theorem zi2 {t : TypeId} {z : RL} {m : Option Nat} {zv : Value} (hz : zcE P t = some z) (hm : ldn P t = some m) (hg : zhW P t = m.isSome) (hv : zeroV z m.isSome = some zv) : ∃ zr, (zeroValue t).run P w = .ok zr w ∧ GR φ zv zr := by
 obtain ⟨i, zr, hi, hzr, hc, hp, hs⟩ := zbI hz
 refine ⟨zr, zaS hi hzr w, ?_⟩
 simp only [zhW, hi, Option.bind_some, hzr] at hg
 unfold zeroV at hv
 cases hms : m.isSome with
 | true =>
  rw [hms] at hg hv
  simp only [if_true, Option.some.injEq] at hv
  subst hv
  split at hg <;> try cases hg
  rename_i u hu
  cases hu
  refine ⟨_, rfl, ?_⟩
  simp only [Value.cells] at hc
  rw [hc]
  exact Each.refl_of fun v hv => SR.of_sclf (hp v hv)
 | false =>
  rw [hms] at hg hv
  simp only [Bool.false_eq_true, if_false] at hv
  split at hv <;> cases hv
  rename_i hx
  rw [hx] at hc hp
  have hzz : zr.cells = #[zr] := by
   cases zr <;> first | rfl | (cases hg)
  rw [hzz] at hc
  simp at hc
  subst hc
  exact GR.of_SR (SR.of_sclf (hp zr (by simp)))
theorem Each.getElem?_map {es : List (Value × Value)} {ms : List MapEntry} (h2 : Each (GR φ) (es.map (·.2)) (ms.map (·.val))) {i : Nat} {x : Value × Value} {m : MapEntry} (hx : es[i]? = some x) (hm : ms[i]? = some m) : GR φ x.2 m.val :=
 h2.2 i _ _ (by simp [hx]) (by simp [hm])
theorem does_lku {t kt el : TypeId} {kk : LK} {z : RL} {m : Option Nat} {ok : Bool} {x y : Operand} {x' y' : Opd} {zv v : Value} (he : ∀ x y, opd x = some y → VR φ (e y) (a.eval x)) (H : HR φ h w) (ho : o.op = .lookup t x y ok) (hx : opd x = some x') (hy : opd y = some y')
  (hu : P.underlying t = some (.map kt el)) (hkk : keyK P kt = some kk) (hz : zcE P el = some z) (hm : ldn P el = some m) (hg : zhW P el = m.isSome) (hzv : zeroV z m.isSome = some zv)
  (hv : (e x' = .map none ∧ v = if ok then .tuple #[zv, .bool false] else zv) ∨ ∃ r es, e x' = .map (some r) ∧ h r = some (.map es) ∧
   ((∃ i p, ziS kk (e y') es = some (some i) ∧ es[i]? = some p ∧ v = if ok then .tuple #[p.2, .bool true] else p.2) ∨ (ziS kk (e y') es = some none ∧ v = if ok then .tuple #[zv, .bool false] else zv))) :
  Does P o a w φ h n v .no := by
 have h1 := he _ _ hx
 have h2 := he _ _ hy
 obtain ⟨d, hd, hdk⟩ := keyK_spec hkk
 obtain ⟨zr, hzr, hzG⟩ := zi2 (P := P) (w := w) (φ := φ) hz hm hg hzv
 have hck : ∀ b v, (Instr.checkKey b 10000 kt v).run P w = .ok () w := fun b v => zhw hd hdk b 9999 v
 have hres : ∀ (b : Bool) (u u' : Value), GR φ u u' → VR φ (if ok then .tuple #[u, .bool b] else u) (if ok then .tuple #[u', .bool b] else u') := by
  intro b u u' hG
  cases ok
  ·exact VR.of_GR hG
  ·exact ⟨_, rfl, Each.cons hG (Each.cons ⟨rfl, rfl⟩ (Each.nil _))⟩
 rcases hv with ⟨hxe, rfl⟩ | ⟨r, es, hxe, hr, hv⟩ <;> rw [hxe] at h1
 ·refine Does.same H (v' := if ok then .tuple #[zr, .bool false] else zr) ?_ (hres _ _ _ hzG)
  have hl : (Instr.lookup t (a.eval x) (a.eval y) ok).run P w = .ok (if ok then .tuple #[zr, .bool false] else zr) w := by
   rw [h1.mapNil]
   unfold Instr.lookup
   simp only [Sem.run_bind, run_underlying hu, Result.andThen_ok, Sem.run_pure, hck, Instr.findKey, run_underlying hd, Instr.findNow, hzr, List.toList_toArray]
  simp only [execOp, ho, Sem.run_bind, hl, Result.andThen_ok, Sem.run_pure]
 ·obtain ⟨b, hb, hφ⟩ := h1.map
  obtain ⟨b', o', hφ', _, ms, cl, hw, hE1, hE2, hE3, hE4⟩ := H.has r _ hr
  rw [hφ] at hφ'; cases hφ'
  rcases hv with ⟨i, p, hf, hp, rfl⟩ | ⟨hf, rfl⟩
  ·obtain ⟨me, hme, hfn, _⟩ := zff hdk h2 es ms.toList 0 i hE1 hf
   refine Does.same H (v' := if ok then .tuple #[me.val, .bool true] else me.val) ?_ (hres _ _ _ (Each.getElem?_map hE2 hp hme))
   have hl : (Instr.lookup t (a.eval x) (a.eval y) ok).run P w = .ok (if ok then .tuple #[me.val, .bool true] else me.val) w := by
    rw [hb]
    unfold Instr.lookup
    have hgo : (getObj b).run P w = .ok (.map ms cl) w := by simp [getObj, Sem.run, hw]
    simp only [Sem.run_bind, run_underlying hu, Result.andThen_ok, Sem.run_pure, hgo, hck, Instr.findKey, run_underlying hd, hfn]
   simp only [execOp, ho, Sem.run_bind, hl, Result.andThen_ok, Sem.run_pure]
  ·have hfn := zfg hdk h2 es ms.toList 0 hE1 hf
   refine Does.same H (v' := if ok then .tuple #[zr, .bool false] else zr) ?_ (hres _ _ _ hzG)
   have hl : (Instr.lookup t (a.eval x) (a.eval y) ok).run P w = .ok (if ok then .tuple #[zr, .bool false] else zr) w := by
    rw [hb]
    unfold Instr.lookup
    have hgo : (getObj b).run P w = .ok (.map ms cl) w := by simp [getObj, Sem.run, hw]
    simp only [Sem.run_bind, run_underlying hu, Result.andThen_ok, Sem.run_pure, hgo, hck, Instr.findKey, run_underlying hd, hfn, hzr]
   simp only [execOp, ho, Sem.run_bind, hl, Result.andThen_ok, Sem.run_pure]
theorem zjc {b : Nat} {ob ob' : Obj} (hb : w.heap[b]? = some ob) (hc : ∀ c e f, ob ≠ .cells c e f) : (setObj b ob').run P w = .ok () { w with heap := w.heap.setIfInBounds b ob' } := by
 cases ob <;> simp [setObj, Sem.run, hb] <;> exact absurd rfl (hc _ _ _)
theorem zhu {b : Nat} {ob ob' : Obj} (hb : w.heap[b]? = some ob) : ({ w with heap := w.heap.setIfInBounds b ob' } : World).heap[b]? = some ob' := by
 obtain ⟨hlt, _⟩ := Array.getElem?_eq_some_iff.1 hb
 simp [hlt]
theorem zhv {b j : Nat} {ob' : Obj} (hj : j ≠ b) : ({ w with heap := w.heap.setIfInBounds b ob' } : World).heap[j]? = w.heap[j]? := by
 simp [Array.getElem?_setIfInBounds_ne (Ne.symm hj)]
theorem does_mup {t kt el : TypeId} {kk : LK} {x y z : Operand} {x' y' z' : Opd} {r : Nat} {es : List (Value × Value)} {f : Eff} (he : ∀ x y, opd x = some y → VR φ (e y) (a.eval x)) (H : HR φ h w) (ho : o.op = .mapUpdate t x y z) (hx : opd x = some x') (hy : opd y = some y') (hz : opd z = some z')
  (hu : P.underlying t = some (.map kt el)) (hkk : keyK P kt = some kk) (ht : zbG (e z') = false) (hxe : e x' = .map (some r)) (hr : h r = some (.map es))
  (hf : (∃ i, ziS kk (e y') es = some (some i) ∧ f = .set r (.map (es.set i (e y', e z')))) ∨ (ziS kk (e y') es = some none ∧ zbG (e y') = false ∧ f = .set r (.map (es ++ [(e y', e z')])))) :
  Does P o a w φ h n undef f := by
 have h1 := he _ _ hx
 have h2 := he _ _ hy
 have h3 := GR.of_VR ht (he _ _ hz)
 obtain ⟨d, hd, hdk⟩ := keyK_spec hkk
 have hck : ∀ b v, (Instr.checkKey b 10000 kt v).run P w = .ok () w := fun b v => zhw hd hdk b 9999 v
 rw [hxe] at h1
 obtain ⟨b, hb, hφ⟩ := h1.map
 obtain ⟨b', o', hφ', _, ms, cl, hw, hE1, hE2, hE3, hE4⟩ := H.has r _ hr
 rw [hφ] at hφ'; cases hφ'
 have hgo : (getObj b).run P w = .ok (.map ms cl) w := by simp [getObj, Sem.run, hw]
 rcases hf with ⟨i, hf, rfl⟩ | ⟨hf, hyt, rfl⟩
 ·obtain ⟨me, hme, hfn, hkey⟩ := zff hdk h2 es ms.toList 0 i hE1 hf
  have hme' : ms[i]? = some me := by simpa using hme
  obtain ⟨⟨p, hp, hsk⟩, _⟩ := find_some hf
  have hky : zbG (e y') = false := by
   rcases zgz hsk with ⟨k, q, hq⟩ | ⟨q, hq⟩ <;> rw [hq] <;> rfl
  have hsb : Instr.sameBits 10000 me.key (a.eval y) = true := by
   rw [hkey]
   have hval : (∃ k q, a.eval y = .int k q) ∨ ∃ q, a.eval y = .string q := by
    rcases zgz hsk with ⟨k, q, hq⟩ | ⟨q, hq⟩ <;> rw [hq] at h2
    ·exact .inl ⟨_, _, h2.int⟩
    ·exact .inr ⟨_, h2.string⟩
   rcases hval with ⟨k, q, hq⟩ | ⟨⟨q⟩, hq⟩ <;> rw [hq] <;> simp [Instr.sameBits]
   show (q == q) = true
   simp
  have hks : (Instr.keyThatStays me.key (a.eval y)).run P w = .ok (a.eval y) w := by
   unfold Instr.keyThatStays
   rw [if_pos hsb]; rfl
  have hl : (Instr.mapUpdate t (a.eval x) (a.eval y) (a.eval z)).run P w = .ok () { w with heap := w.heap.setIfInBounds b (.map (ms.modify i fun m => { m with key := a.eval y, val := a.eval z }) cl) } := by
   rw [hb]
   unfold Instr.mapUpdate
   simp only [Sem.run_bind, run_underlying hu, Result.andThen_ok, hgo, hck, Instr.findKey, run_underlying hd, hfn, Sem.run_pure, Nat.zero_add]
   have : (((ms[i]?).map (·.key)).getD (a.eval y)) = me.key := by simp [hme']
   rw [this, hks]
   simp only [Result.andThen_ok]
   exact zjc hw (by intro c e f h; cases h)
  have hlen : ms.size = es.length := by have := hE1.1; simp at this; omega
  have hmod : (ms.modify i fun m => { m with key := a.eval y, val := a.eval z }).toList = ms.toList.set i { me with key := a.eval y, val := a.eval z } := by
   rw [Array.toList_modify]
   apply List.ext_getElem?
   intro j
   rw [List.getElem?_modify, List.getElem?_set]
   by_cases hij : i = j
   ·subst hij
    obtain ⟨hlt, _⟩ := List.getElem?_eq_some_iff.1 hme
    rw [if_pos rfl, if_pos hlt, hme]
    simp
   ·simp [hij]
  obtain ⟨h4, h5⟩ := HR.set (w' := { w with heap := w.heap.setIfInBounds b (.map (ms.modify i fun m => { m with key := a.eval y, val := a.eval z }) cl) }) (blk' := .map (es.set i (e y', e z'))) H hr rfl hφ
   ⟨rfl, _, cl, zhu hw, by
    rw [hmod, List.map_set, List.map_set]; exact hE1.set (GR.of_VR hky h2) i, by
    rw [hmod, List.map_set, List.map_set]; exact hE2.set h3 i, by
    rw [hmod, List.map_set]
    have : (ms.toList.map (·.born)).set i me.born = ms.toList.map (·.born) := by
     apply List.ext_getElem?
     intro j
     rw [List.getElem?_set]
     split
     ·rename_i hij; subst hij
      obtain ⟨hlt, _⟩ := List.getElem?_eq_some_iff.1 hme
      simp [hme]
      simpa using hlt
     ·rfl
    rw [this, hE3]; simp, by rw [hE4]; simp⟩ rfl (by simp) (fun j hj => zhv hj) rfl rfl rfl
  refine ⟨φ, undef, _, .inr ⟨?_, rfl⟩, VR.undef, h4, h5⟩
  simp only [execOp, ho, Sem.run_bind, hl, Result.andThen_ok, Sem.run_pure]
 ·have hfn := zfg hdk h2 es ms.toList 0 hE1 hf
  have hl : (Instr.mapUpdate t (a.eval x) (a.eval y) (a.eval z)).run P w = .ok () { w with heap := w.heap.setIfInBounds b (.map (ms.push { key := a.eval y, val := a.eval z, born := cl }) (cl + 1)) } := by
   rw [hb]
   unfold Instr.mapUpdate
   simp only [Sem.run_bind, run_underlying hu, Result.andThen_ok, hgo, hck, Instr.findKey, run_underlying hd, hfn, Sem.run_pure]
   exact zjc hw (by intro c e f h; cases h)
  obtain ⟨h4, h5⟩ := HR.set (w' := { w with heap := w.heap.setIfInBounds b (.map (ms.push { key := a.eval y, val := a.eval z, born := cl }) (cl + 1)) }) (blk' := .map (es ++ [(e y', e z')])) H hr rfl hφ
   ⟨rfl, _, cl + 1, zhu hw, by
    simp only [Array.toList_push, List.map_append, List.map_cons, List.map_nil]; exact hE1.append (Each.cons (GR.of_VR hyt h2) (Each.nil _)), by
    simp only [Array.toList_push, List.map_append, List.map_cons, List.map_nil]; exact hE2.append (Each.cons h3 (Each.nil _)), by
    simp only [Array.toList_push, List.map_append, List.map_cons, List.map_nil]
    rw [hE3, hE4, Array.size_push, List.range_succ], by rw [hE4]; simp⟩ rfl (by simp) (fun j hj => zhv hj) rfl rfl rfl
  refine ⟨φ, undef, _, .inr ⟨?_, rfl⟩, VR.undef, h4, h5⟩
  simp only [execOp, ho, Sem.run_bind, hl, Result.andThen_ok, Sem.run_pure]
end
end Go.Rh

namespace Go.Rh
section
variable {P : Program} {o : Oper} {a : Act} {w : World} {φ : Phi} {h : Nat → Option Blk} {n : Nat} {e : Opd → Value}
theorem bin_does {op : BinOp} {t t' : TypeId} {x y : Operand} {v : Value} {f : Eff} (he : ∀ x y, opd x = some y → VR φ (e y) (a.eval x)) (H : HR φ h w) (ho : o.op = .binOp op t x y t') (hs : zQ (cBin P op t x y) e h n = some (v, f)) : Does P o a w φ h n v f := by
  have plain : ∀ x' y', opd x = some x' → opd y = some y' → zQ (.bin op x' y') e h n = some (v, f) → Does P o a w φ h n v f := by
    intro x' y' hx hy hs
    simp only [zQ] at hs
    split at hs <;> cases hs
    rename_i hv
    exact does_bin he H ho hx hy hv
  unfold cBin at hs
  split at hs
  · rename_i hop
    have hop' : op = .eql ∨ op = .neq := by simpa using hop
    split at hs
    · unfold O2 at hs; split at hs
      · rename_i x' y' hx hy; exact plain _ _ hx hy hs
      · cases hs
    · unfold O2 at hs; split at hs
      · rename_i x' y' hx hy; exact plain _ _ hx hy hs
      · cases hs
    · rename_i hu
      unfold O2 at hs; split at hs
      · rename_i x' y' hx hy
        simp only [zQ] at hs
        split at hs <;> cases hs
        rename_i p q ex ey
        exact does_eqb he H ho hx hy hop' hu ex ey
      · cases hs
    · rename_i fs hu
      split at hs
      · rename_i ks hl
        split at hs
        · cases hs
        · rename_i hg
          unfold O2 at hs; split at hs
          · rename_i x' y' hx hy
            simp only [zQ] at hs
            split at hs <;> try cases hs
            rename_i p q ex ey
            split at hs <;> cases hs
            rename_i r hr
            rw [zf3] at hr
            exact does_eqa he H ho hx hy hop' hu rfl hl (by simpa using hg) ex ey hr
          · cases hs
      · cases hs
    · rename_i len el hu
      split at hs
      · rename_i ks hl
        split at hs
        · cases hs
        · rename_i hg
          unfold O2 at hs; split at hs
          · rename_i x' y' hx hy
            simp only [zQ] at hs
            split at hs <;> try cases hs
            rename_i p q ex ey
            split at hs <;> cases hs
            rename_i r hr
            rw [zf3] at hr
            exact does_eqa he H ho hx hy hop' hu rfl hl (by simpa using hg) ex ey hr
          · cases hs
      · cases hs
    all_goals first
      | cases hs; done
      | (rename_i hu
         unfold O2 at hs; split at hs
         · rename_i x' y' hx hy
           simp only [zQ] at hs
           split at hs <;> cases hs
           rename_i r hr
           exact does_eqn he H ho hx hy hop' hu rfl hr
         · cases hs)
  · split at hs
    · unfold O2 at hs; split at hs
      · rename_i x' y' hx hy; exact plain _ _ hx hy hs
      · cases hs
    · unfold O2 at hs; split at hs
      · rename_i x' y' hx hy; exact plain _ _ hx hy hs
      · cases hs
    · cases hs
theorem one_of {α : Type} {x : α} {l : Array α} (h : l.toList = [x]) : l = #[x] := by
 apply Array.ext'; simpa using h
theorem zi6 {α : Type} {x y : α} {l : Array α} (h : l.toList = [x, y]) : l = #[x, y] := by
 apply Array.ext'; simpa using h
theorem call_does {c : Call} {v : Value} {f : Eff} (he : ∀ x y, opd x = some y → VR φ (e y) (a.eval x)) (H : HR φ h w) (ho : o.op = .call c) (hs : zQ (cCall P c o.type) e h n = some (v, f)) : Does P o a w φ h n v f := by
 obtain ⟨callee, args, argTypes⟩ := c
 unfold cCall at hs
 simp only at hs
 split at hs
 ·-- a Go function
  rename_i e1 e2 e3
  split at hs
  ·split at hs <;> cases hs
  ·cases hs
 ·-- len
  rename_i x t e2 e3
  rw [one_of e2, one_of e3] at ho
  split at hs
  ·rename_i el hu
   unfold O1 at hs; split at hs
   ·rename_i y hy
    simp only [zQ] at hs
    split at hs <;> cases hs
    rename_i ev
    exact does_lenS (ty := 0) he H ho hy hu ev
   ·cases hs
  ·rename_i hu
   unfold O1 at hs; split at hs
   ·rename_i y hy
    simp only [zQ] at hs
    split at hs <;> cases hs
    rename_i ev
    exact does_lenT he H ho hy hu ev
   ·cases hs
  ·rename_i k el hu
   unfold O1 at hs; split at hs
   ·rename_i y hy
    simp only [zQ] at hs
    split at hs <;> try cases hs
    ·rename_i ev
     exact does_lenM (m := 0) (ty := 0) he H ho hy hu (.inl ⟨ev, rfl⟩)
    ·rename_i r ev
     split at hs <;> cases hs
     rename_i es hr
     exact does_lenM (ty := 0) he H ho hy hu (.inr ⟨r, es, ev, hr, rfl⟩)
   ·cases hs
  ·rename_i dir el hu
   unfold O1 at hs; split at hs
   ·rename_i y hy
    simp only [zQ] at hs
    split at hs <;> try cases hs
    rename_i r ev
    split at hs <;> cases hs
    rename_i cap bf hr
    exact does_lenC (ty := 0) he H ho hy hu ev hr
   ·cases hs
  ·cases hs
 ·-- append
  rename_i x y st xt e1 e2 e3
  split at hs
  ·split at hs
   ·split at hs
    ·cases hs
    ·unfold O2 at hs; split at hs <;> simp [zQ] at hs
   ·cases hs
  ·split at hs
   ·split at hs
    ·cases hs
    ·unfold O2 at hs; split at hs <;> simp [zQ] at hs
   ·cases hs
  ·cases hs
 ·-- copy
  rename_i x y dt st e2 e3
  rw [zi6 e2, zi6 e3] at ho
  have main : ∀ el s x' y', P.underlying dt = some (.slice el) → zfx P el = some s → opd x = some x' → opd y = some y' → zQ (.cpy s x' y') e h n = some (v, f) → Does P o a w φ h n v f := by
   intro el s x' y' hu hsz hx hy hs
   simp only [zQ] at hs
   split at hs <;> try cases hs
   rename_i p dl dc sl ex hl
   split at hs <;> try cases hs
   rename_i cc hc
   split at hs <;> try cases hs
   ·rename_i k off
    split at hs <;> try cases hs
    rename_i old hk
    split at hs <;> cases hs
    rename_i hb
    exact does_cpy (ty := 0) he H ho hx hy hu hsz ex hl hc (.inr ⟨k, off, old, rfl, hk, hb, rfl⟩)
   ·exact does_cpy (ty := 0) he H ho hx hy hu hsz ex hl hc (.inl ⟨rfl, rfl⟩)
  split at hs
  ·rename_i el _ hu hu2
   split at hs
   ·rename_i s hsz
    unfold O2 at hs; split at hs
    ·rename_i x' y' hx hy; exact main _ _ _ _ hu hsz hx hy hs
    ·cases hs
   ·cases hs
  ·rename_i el hu hu2
   split at hs
   ·rename_i s hsz
    unfold O2 at hs; split at hs
    ·rename_i x' y' hx hy; exact main _ _ _ _ hu hsz hx hy hs
    ·cases hs
   ·cases hs
  ·cases hs
 ·-- max
  rename_i x y e2
  rw [zi6 e2] at ho
  split at hs
  ·unfold O2 at hs; split at hs
   ·rename_i x' y' hx hy
    simp only [zQ] at hs
    split at hs <;> cases hs
    rename_i ex ey
    exact does_mm (b := true) (t := 0) he H ho hx hy ex ey
   ·cases hs
  ·cases hs
 ·-- min
  rename_i x y e2
  rw [zi6 e2] at ho
  split at hs
  ·unfold O2 at hs; split at hs
   ·rename_i x' y' hx hy
    simp only [zQ] at hs
    split at hs <;> cases hs
    rename_i ex ey
    exact does_mm (b := false) (t := 0) he H ho hx hy ex ey
   ·cases hs
  ·cases hs
 all_goals cases hs
theorem zi7 {v : Value} {f : Eff} (he : ∀ x y, opd x = some y → VR φ (e y) (a.eval x)) (H : HR φ h w) (hn : h n = none) (hs : zQ (cOp P o) e h n = some (v, f)) : Does P o a w φ h n v f := by
 have hco : cOp P o = cOp P o := rfl
 cases ho : o.op with
 | move x =>
  simp only [cOp, ho, O1] at hs
  split at hs <;> simp only [zQ] at hs <;> cases hs
  rename_i y hy; exact does_mv he H (.inl ho) hy
 | assign x =>
  simp only [cOp, ho, O1] at hs
  split at hs <;> simp only [zQ] at hs <;> cases hs
  rename_i y hy; exact does_mv he H (.inr ho) hy
 | pick c x y =>
  simp only [cOp, ho] at hs
  split at hs
  ·rename_i c' x' y' hc hx hy
   simp only [zQ] at hs
   split at hs <;> cases hs
   rename_i t ht; exact does_pick he H ho hc hx hy ht
  ·simp [zQ] at hs
 | alloc t =>
  simp only [cOp, ho] at hs
  split at hs
  ·rename_i z hz; simp only [zQ] at hs; cases hs; exact does_new H hn ho hz
  ·simp [zQ] at hs
 | box t x =>
  simp only [cOp, ho, O1] at hs
  split at hs
  ·rename_i y hy
   simp only [zQ] at hs
   split at hs <;> cases hs
   rename_i ht; exact does_box he H hn ho hy (by simpa using ht)
  ·simp [zQ] at hs
 | build t ps =>
  cases hc : cOp P o <;> rw [hc] at hs <;> first
   | (simp only [cOp, ho] at hc; split at hc <;> (try split at hc) <;> (try split at hc) <;> cases hc; done)
   | (simp [zQ] at hs; done)
   | skip
  rename_i z qs
  simp only [zQ] at hs
  split at hs <;> cases hs
  rename_i c hf
  exact does_bld he H ho hc hf
 | buildSlice t len ps =>
  cases hc : cOp P o <;> rw [hc] at hs <;> first
   | (simp only [cOp, ho] at hc; split at hc <;> (try split at hc) <;> (try split at hc) <;> (try split at hc) <;> cases hc; done)
   | (simp [zQ] at hs; done)
   | skip
  rename_i z s l qs
  simp only [zQ] at hs
  split at hs <;> cases hs
  rename_i c hf
  exact does_bsl he H hn ho hc hf
 | load t x =>
  simp only [cOp, ho] at hs
  split at hs
  ·rename_i m hm
   unfold O1 at hs; split at hs
   ·rename_i y hy
    simp only [zQ] at hs
    split at hs <;> cases hs
    rename_i hv; exact does_ld he H ho hy hm hv
   ·simp [zQ] at hs
  ·simp [zQ] at hs
 | store t x y =>
  simp only [cOp, ho] at hs
  split at hs
  ·rename_i m hm
   unfold O2 at hs; split at hs
   ·rename_i x' y' hx hy
    simp only [zQ] at hs
    split at hs <;> cases hs
    rename_i hf; exact does_st he H ho hx hy hm hf
   ·simp [zQ] at hs
  ·simp [zQ] at hs
 | nilCheck x =>
  simp only [cOp, ho, O1] at hs
  split at hs
  ·rename_i y hy
   simp only [zQ] at hs
   split at hs <;> cases hs
   rename_i ev; exact does_nilc he H ho hy ev
  ·simp [zQ] at hs
 | binOp op t x y t' =>
  simp only [cOp, ho] at hs
  exact bin_does he H ho hs
 | unOp op t x =>
  simp only [cOp, ho, O1] at hs
  split at hs
  ·rename_i y hy
   simp only [zQ] at hs
   split at hs <;> cases hs
   rename_i hv; exact does_un he H ho hy hv
  ·simp [zQ] at hs
 | convert s d x =>
  simp only [cOp, ho] at hs
  split at hs
  ·rename_i k j hu1 hu2
   unfold O1 at hs; split at hs
   ·rename_i y hy
    simp only [zQ] at hs
    split at hs <;> cases hs
    rename_i ev; exact does_cvi he H ho hy hu1 hu2 ev
   ·simp [zQ] at hs
  ·rename_i hu1 hu2
   unfold O1 at hs; split at hs
   ·rename_i y hy
    simp only [zQ] at hs
    split at hs <;> cases hs
    rename_i ev; exact does_cst he H ho hy hu1 hu2 ev
   ·simp [zQ] at hs
  ·split at hs
   ·unfold O1 at hs; split at hs <;> simp [zQ] at hs
   ·simp [zQ] at hs
  ·rename_i el hu1 hu2
   split at hs
   ·rename_i hu3
    unfold O1 at hs; split at hs
    ·rename_i y hy
     simp only [zQ] at hs
     split at hs <;> try cases hs
     ·rename_i ev; exact does_cbs he H ho hy hu1 hu2 hu3 ev (.inl ⟨rfl, rfl⟩)
     ·rename_i ev
      split at hs <;> try cases hs
      rename_i c hc
      split at hs <;> cases hs
      rename_i q hq; exact does_cbs he H ho hy hu1 hu2 hu3 ev (.inr ⟨_, _, c, q, rfl, hc, hq, rfl⟩)
    ·simp [zQ] at hs
   ·simp [zQ] at hs
  ·simp [zQ] at hs
 | fieldAddr s x i =>
  simp only [cOp, ho] at hs
  split at hs
  ·rename_i fs hu
   split at hs
   ·rename_i fd hf
    split at hs
    ·rename_i m hm
     unfold O1 at hs; split at hs
     ·rename_i y hy
      simp only [zQ] at hs
      split at hs <;> cases hs
      rename_i ev; exact does_fad he H ho hy hu hf hm ev
     ·simp [zQ] at hs
    ·simp [zQ] at hs
   ·simp [zQ] at hs
  ·simp [zQ] at hs
 | field s x i =>
  simp only [cOp, ho] at hs
  split at hs
  ·rename_i fs hu
   split at hs
   ·rename_i fd hf
    split at hs
    ·rename_i m hm
     unfold O1 at hs; split at hs
     ·rename_i y hy
      simp only [zQ] at hs
      split at hs <;> try cases hs
      rename_i ev
      split at hs <;> cases hs
      rename_i hv; exact does_fld he H ho hy hu hf hm ev hv
     ·simp [zQ] at hs
    ·simp [zQ] at hs
   ·simp [zQ] at hs
  ·simp [zQ] at hs
 | indexAddr t x i =>
  simp only [cOp, ho] at hs
  split at hs
  ·rename_i len el hu
   split at hs
   ·rename_i s hsz
    unfold O2 at hs; split at hs
    ·rename_i x' i' hx hi
     simp only [zQ] at hs
     split at hs <;> try cases hs
     rename_i ex ei
     split at hs <;> cases hs
     rename_i hb; exact does_iadA he H ho hx hi hu hsz ex ei hb
    ·simp [zQ] at hs
   ·simp [zQ] at hs
  ·rename_i el hu
   split at hs
   ·rename_i s hsz
    unfold O2 at hs; split at hs
    ·rename_i x' i' hx hi
     simp only [zQ] at hs
     split at hs <;> try cases hs
     rename_i ex ei
     split at hs <;> cases hs
     rename_i hb; exact does_iadS he H ho hx hi hu hsz ex ei hb
    ·simp [zQ] at hs
   ·simp [zQ] at hs
  ·simp [zQ] at hs
 | index t x i =>
  simp only [cOp, ho] at hs
  split at hs
  ·rename_i len el hu
   split at hs
   ·rename_i s m hsz hm
    unfold O2 at hs; split at hs
    ·rename_i x' i' hx hi
     simp only [zQ] at hs
     split at hs <;> try cases hs
     rename_i ex ei
     split at hs <;> try cases hs
     rename_i hb
     split at hs <;> cases hs
     rename_i hp; exact does_ixA he H ho hx hi hu hsz hm ex ei hb hp
    ·simp [zQ] at hs
   ·simp [zQ] at hs
  ·rename_i hu
   unfold O2 at hs; split at hs
   ·rename_i x' i' hx hi
    simp only [zQ] at hs
    split at hs <;> try cases hs
    rename_i ex ei
    split at hs <;> try cases hs
    rename_i hb
    split at hs <;> cases hs
    rename_i hp; exact does_ixS he H ho hx hi hu ex ei hb hp
   ·simp [zQ] at hs
  ·simp [zQ] at hs
 | slice t x lo hi mx =>
  simp only [cOp, ho] at hs
  split at hs
  ·rename_i len el x' lo' hi' mx' hu hx h1 h2 h3
   split at hs
   ·rename_i s hsz
    simp only [zQ] at hs
    split at hs <;> try cases hs
    rename_i ex
    split at hs <;> cases hs
    rename_i hv; exact does_slcA he H ho hx h1 h2 h3 hu hsz ex hv
   ·simp [zQ] at hs
  ·rename_i el x' lo' hi' mx' hu hx h1 h2 h3
   split at hs
   ·rename_i s hsz
    simp only [zQ] at hs
    split at hs <;> cases hs
    rename_i hv; exact does_slcS he H ho hx h1 h2 h3 hu hsz hv
   ·simp [zQ] at hs
  ·rename_i x' lo' hi' hu hx h1 h2 h3
   have hmx : mx = none := by cases mx <;> simp [opdO] at h3 ⊢
   subst hmx
   simp only [zQ] at hs
   split at hs <;> try cases hs
   rename_i ex
   split at hs <;> cases hs
   rename_i hv; exact does_slcT he H ho hx h1 h2 hu ex hv
  ·simp [zQ] at hs
 | makeSlice t x y =>
  simp only [cOp, ho] at hs
  split at hs
  ·rename_i el hu
   split at hs
   ·rename_i s b z hsz hb hz
    unfold O2 at hs; split at hs
    ·rename_i x' y' hx hy
     simp only [zQ] at hs
     split at hs <;> try cases hs
     rename_i ex ey
     split at hs <;> cases hs
     rename_i hbb
     cases hi : P.info? el with
     | none => simp [hi] at hb
     | some i =>
      simp only [hi, Option.map_some, Option.some.injEq] at hb
      subst hb
      exact does_mks he H hn ho hx hy hu hi hz ex ey hbb
    ·simp [zQ] at hs
   ·simp [zQ] at hs
  ·simp [zQ] at hs
 | extract x i =>
  simp only [cOp, ho, O1] at hs
  split at hs
  ·rename_i y hy
   simp only [zQ] at hs
   split at hs <;> try cases hs
   rename_i ev
   split at hs <;> cases hs
   rename_i hv; exact does_ext he H ho hy ev hv
  ·simp [zQ] at hs
 | makeMap t r =>
  cases r with
  | some r => simp [cOp, ho, zQ] at hs
  | none =>
   simp only [cOp, ho] at hs
   split at hs
   ·split at hs
    ·simp only [zQ] at hs; cases hs; exact does_mkm H hn ho
    ·simp [zQ] at hs
   ·simp [zQ] at hs
 | lookup t x y ok =>
  simp only [cOp, ho] at hs
  split at hs
  ·rename_i kt el hu
   split at hs
   ·rename_i kk z m hkk hz hm
    split at hs
    ·rename_i hg
     unfold O2 at hs; split at hs
     ·rename_i x' y' hx hy
      simp only [zQ] at hs
      split at hs <;> try cases hs
      rename_i zv hzv
      split at hs <;> try cases hs
      ·rename_i ex; exact does_lku he H ho hx hy hu hkk hz hm hg hzv (.inl ⟨ex, rfl⟩)
      ·rename_i r ex
       split at hs <;> try cases hs
       rename_i es hr
       split at hs <;> try cases hs
       ·rename_i i hf
        split at hs <;> cases hs
        rename_i p hp; exact does_lku he H ho hx hy hu hkk hz hm hg hzv (.inr ⟨r, es, ex, hr, .inl ⟨i, p, hf, hp, rfl⟩⟩)
       ·rename_i hf; exact does_lku he H ho hx hy hu hkk hz hm hg hzv (.inr ⟨r, es, ex, hr, .inr ⟨hf, rfl⟩⟩)
     ·simp [zQ] at hs
    ·simp [zQ] at hs
   ·simp [zQ] at hs
  ·simp [zQ] at hs
 | mapUpdate t x y z =>
  simp only [cOp, ho] at hs
  split at hs
  ·rename_i kt el hu
   split at hs
   ·rename_i kk x' y' z' hkk hx hy hz
    simp only [zQ] at hs
    split at hs <;> try cases hs
    rename_i ht
    split at hs <;> try cases hs
    rename_i r ex
    split at hs <;> try cases hs
    rename_i es hr
    split at hs <;> try cases hs
    ·rename_i i hf; exact does_mup he H ho hx hy hz hu hkk (by simpa using ht) ex hr (.inl ⟨i, hf, rfl⟩)
    ·rename_i hf
     split at hs <;> cases hs
     rename_i hyt; exact does_mup he H ho hx hy hz hu hkk (by simpa using ht) ex hr (.inr ⟨hf, by simpa using hyt, rfl⟩)
   ·simp [zQ] at hs
  ·simp [zQ] at hs
 | call c =>
  simp only [cOp, ho] at hs
  exact call_does he H ho hs
 | makeChan t s =>
  have bad : ∀ why, cOp P o = .bad why → False := fun why hb => by rw [hb] at hs; simp [zQ] at hs
  cases s with
  | const val =>
   cases val with
   | int k z =>
    cases k with
    | i64 =>
     simp only [cOp, ho] at hs
     split at hs
     ·rename_i dir el hu
      split at hs
      ·rename_i i hi
       split at hs
       ·rename_i hb
        simp only [zQ] at hs
        cases hs
        have hz : z = (z.toNat : Int) := by omega
        rw [hz] at ho
        exact does_mkc H hn ho hu hi hb.2.2 (by omega)
       ·simp [zQ] at hs
      ·simp [zQ] at hs
     ·simp [zQ] at hs
    | _ => exact (bad _ (by simp only [cOp, ho]; rfl)).elim
   | _ => exact (bad _ (by simp only [cOp, ho]; rfl)).elim
  | _ => exact (bad _ (by simp only [cOp, ho]; rfl)).elim
 | next x s => cases s <;> simp [cOp, ho, O1] at hs <;> (try split at hs) <;> simp [zQ] at hs
 | entry x => simp only [cOp, ho, O1] at hs; split at hs <;> simp [zQ] at hs
 | range t x => simp only [cOp, ho, O1] at hs; split at hs <;> (try split at hs) <;> simp [zQ] at hs
 | send c x => simp only [cOp, ho, O2] at hs; split at hs <;> simp [zQ] at hs
 | recv t c ok =>
  cases ok <;> simp only [cOp, ho] at hs
  ·split at hs
   ·split at hs
    ·unfold O1 at hs; split at hs <;> simp [zQ] at hs
    ·simp [zQ] at hs
   ·simp [zQ] at hs
  ·simp [zQ] at hs
 | select cs b =>
  cases b <;> simp only [cOp, ho] at hs
  ·split at hs
   ·split at hs
    ·split at hs
     ·unfold O1 at hs; split at hs <;> simp [zQ] at hs
     ·simp [zQ] at hs
    ·simp [zQ] at hs
   ·simp [zQ] at hs
  ·simp [zQ] at hs
 | _ => simp [cOp, ho, zQ] at hs
end
end Go.Rh

namespace Go.Rh
inductive IExit where
  | normal
  | exit (id : Nat)
  | goto (l : Nat)
  | ret
abbrev zdX := Value → List Blk → Prop
def hf (l : List Blk) : Nat → Option Blk := fun k => match l[k]? with
 | some .gone => none
 | x => x
def zcI (h1 h1' : List Blk) : Prop := ∀ (i : Nat) b b', h1[i]? = some b → h1'[i]? = some b' → b'.rw = b.rw
def zee (h1 h1' : List Blk) : Prop := ∀ i : Nat, h1[i]? = some .gone → h1'[i]? = some .gone
def zcl (C : qW) (g : String) (vals : List Value) (K : zdX) (h : List Blk) : Prop :=
 ∃ (sel : List Nat) (h1 : List Blk) (a1 : List Value) (R : zdX), C g a1 h1 R ∧ h1.length = sel.length ∧ a1.map (zbw (rho sel h.length)) = vals ∧
  (∀ (i k : Nat) b1, sel[i]? = some k → h1[i]? = some b1 → ∃ b, h[k]? = some b ∧ Blk.view (zaR (rho sel h.length) b1) b) ∧
  (∀ (i j k : Nat) b1, i ≠ j → sel[i]? = some k → sel[j]? = some k → h1[i]? = some b1 → b1.rw = false) ∧
  ∀ v h1', R v h1' → sel.length ≤ h1'.length → zcI h1 h1' → zee h1 h1' ∧ K (zbw (rho sel h.length) v) (zdK h sel h1' (rho sel h.length))
def appK (z : RL) (size bytes : Nat) (s x : Value) (K : Value → Eff → Prop) (h : Nat → Option Blk) (nid : Nat) : Prop :=
 match s, lenV x with
 | .slice base sl cap, some m => match first h size sl s, first h size m x with
  | some old, some new =>
   if sl + m ≤ cap then (match base with
    | some ⟨k, o, none⟩ => if m = 0 then K (.slice base (sl + m) cap) .no else match h k with
     | some (.cells c true) => if o + sl * size + new.length ≤ c.length then K (.slice base (sl + m) cap) (.set k (.cells (splice c (o + sl * size) new) true)) else False
     | _ => False
    | none => if m = 0 then K (.slice none (sl + m) cap) .no else False
    | _ => False)
   else 2 * (sl + m) * bytes ≤ 2 ^ 48 ∧ ∀ c, sl + m ≤ c → K (.slice (some ⟨nid, 0, none⟩) (sl + m) c) (.push (.cells (old ++ new ++ (List.replicate (c - (sl + m)) (qI z)).flatten) true))
  | _, _ => False
 | _, _ => False
def csbK (x : Value) (K : Value → Eff → Prop) (nid : Nat) : Prop :=
 match x with
 | .string s => ∀ c, s.size ≤ c → K (.slice (some ⟨nid, 0, none⟩) s.size c) (.push (.cells ((s.data.toList.map fun b => .int .u8 b.toNat) ++ List.replicate (c - s.size) (.int .u8 0)) true))
 | _ => False
def sndK (c v : Value) (K : Value → Eff → Prop) (h : Nat → Option Blk) : Prop :=
 match c with
 | .chan (some r) => match h r with
  | some (.chan n b) => b.length < n ∧ zbG v = false ∧ K undef (.set r (.chan n (b ++ [v])))
  | _ => False
 | _ => False
def rcvK (c : Value) (K : Value → Eff → Prop) (h : Nat → Option Blk) : Prop :=
 match c with
 | .chan (some r) => match h r with
  | some (.chan n (v :: b)) => K v (.set r (.chan n b))
  | _ => False
 | _ => False
def rngK (x : Value) (K : Value → Eff → Prop) (h : Nat → Option Blk) (nid : Nat) : Prop :=
 match x with
 | .map (some r) => match h r with
  | some (.map es) => K (.pointer (some ⟨nid, 0, none⟩)) (.push (.iter r es.length []))
  | _ => False
 | _ => False
def nxtK (x : Value) (K : Value → Eff → Prop) (h : Nat → Option Blk) : Prop :=
 match x with
 | .pointer (some ⟨k, 0, none⟩) => match h k with
  | some (.iter m n seen) => match h m with
   | some (.map es) => es.length = n ∧ ((∀ i, i < n → i ∈ seen) → K (.tuple #[.bool false]) .no) ∧ ∀ (i : Nat) e, i ∉ seen → es[i]? = some e → K (.tuple #[.bool true, e.1, e.2]) (.set k (.iter m n (seen ++ [i])))
   | _ => False
  | _ => False
 | _ => False
def entK (x : Value) (K : Value → Eff → Prop) (h : Nat → Option Blk) : Prop :=
 match x with
 | .pointer (some ⟨k, 0, none⟩) => match h k with
  | some (.iter m n seen) => match h m, seen.getLast? with
   | some (.map es), some i => match es[i]? with
    | some e => es.length = n ∧ K (.tuple #[e.1, e.2]) .no
    | none => False
   | _, _ => False
  | _ => False
 | _ => False
def selK (z : RL) (agg : Bool) (c : Value) (K : Value → Eff → Prop) (h : Nat → Option Blk) : Prop :=
 match c with
 | .chan (some r) => match h r with
  | some (.chan n (v :: b)) => K (.tuple #[.int .i64 0, .bool true, v]) (.set r (.chan n b))
  | some (.chan n []) => match zeroV z agg with
   | some zv => K (.tuple #[.int .i64 (-1), .bool false, zv]) .no
   | none => False
  | _ => False
 | _ => False
def zfQ (C : qW) (op : IOp) (f : Nat → Value) (h : List Blk) (K : Value → List Blk → Prop) : Prop :=
 match op with
 | .call g args => zcl C g (args.map (evf f)) K h
 | .app z size bytes s x => appK z size bytes (evf f s) (evf f x) (fun v e => K v (e.on h)) (hf h) h.length
 | .csb x => csbK (evf f x) (fun v e => K v (e.on h)) h.length
 | .snd c v => sndK (evf f c) (evf f v) (fun v e => K v (e.on h)) (hf h)
 | .rcv c => rcvK (evf f c) (fun v e => K v (e.on h)) (hf h)
 | .sel1 z agg c => selK z agg (evf f c) (fun v e => K v (e.on h)) (hf h)
 | .rng x => rngK (evf f x) (fun v e => K v (e.on h)) (hf h) h.length
 | .nxt x => nxtK (evf f x) (fun v e => K v (e.on h)) (hf h)
 | .ent x => entK (evf f x) (fun v e => K v (e.on h)) (hf h)
 | op => match zQ op (evf f) (hf h) h.length with
  | some (v, e) => K v (e.on h)
  | none => False
def wp1 (C : qW) (c : ICell) (K : St → Prop) (s : St) : Prop :=
 match c.guard with
 | none => zfQ C c.op s.f s.h fun v h => K ⟨zas s.f c.dst v, h⟩
 | some (g, b) => match s.f g with
  | .bool x => if x = b then zfQ C c.op s.f s.h fun v h => K ⟨zas s.f c.dst v, h⟩ else K ⟨zas s.f c.dst undef, s.h⟩
  | .complex _ _ _ => False
  | _ => K ⟨zas s.f c.dst undef, s.h⟩
def zbg (C : qW) : List ICell → (St → Prop) → St → Prop
 | [], K, s => K s
 | c :: r, K, s => wp1 C c (zbg C r K) s
structure DCell where
  i : Nat
  nid : Nat
  c : ICell
def zbA : Nat → Nat → List ICell → List DCell
 | _, _, [] => []
 | i, nid, c :: r => ⟨i, nid, c⟩ :: zbA (i + 1) (if c.op.makes then nid + 1 else nid) r
def zau : List ICell → Nat
 | [] => 0
 | c :: r => if c.op.makes then zau r + 1 else zau r
structure Foot where
  i : Nat
  rd : List Nat
  wr : List Nat
  top : Option Nat
def Foot.none? (x : Foot) : Bool := match x.rd, x.wr, x.top with
 | [], [], none => true
 | _, _, _ => false
def below (t : Option Nat) (l : List Nat) : Prop := match t with
 | some n => ∀ k ∈ l, k < n
 | none => True
def Foot.apart (x y : Foot) : Prop := (∀ k ∈ x.wr, k ∉ y.rd ∧ k ∉ y.wr) ∧ (∀ k ∈ y.wr, k ∉ x.rd) ∧ below x.top (y.rd ++ y.wr) ∧ below y.top (x.rd ++ x.wr)
def fits (un : Nat → Nat → Bool) (x : Foot) (log : List Foot) : Prop := ∀ y ∈ log, Foot.apart y x ∨ un y.i x.i = false
def zgs (x : Foot) (log : List Foot) : List Foot := if x.none? then log else x :: log
def zb0 (c : ICell) (f : Nat → Value) : Bool := match c.guard with
 | none => true
 | some (g, b) => match f g with
  | .bool x => x == b
  | _ => false
def gJ (c : ICell) (f : Nat → Value) : Bool := match c.guard with
 | none => false
 | some (g, _) => match f g with
  | .complex _ _ _ => true
  | _ => false
def Eff.wr (nid : Nat) : Eff → List Nat
 | .no => []
 | .set k _ => [k]
 | .push _ => [nid]
def Eff.onR (nid : Nat) (h : List Blk) : Eff → List Blk
 | .no => h
 | .set k b => h.set k b
 | .push b => h.set nid b
def Eff.okR (nid : Nat) (h : List Blk) : Eff → Prop
 | .push _ => h[nid]? = some .gone
 | _ => True
def zcL : List Nat → List Blk → List Nat
 | k :: ks, b :: bs => if b.rw then k :: zcL ks bs else zcL ks bs
 | _, _ => []
def CallD (C : qW) (un : Nat → Nat → Bool) (i : Nat) (g : String) (vals : List Value) (log : List Foot) (K : List Foot → Value → List Blk → Prop) (h : List Blk) : Prop :=
 ∃ (sel : List Nat) (h1 : List Blk) (a1 : List Value) (R : zdX), C g a1 h1 R ∧ h1.length = sel.length ∧ a1.map (zbw (rho sel h.length)) = vals ∧
  (∀ (i k : Nat) b1, sel[i]? = some k → h1[i]? = some b1 → ∃ b, h[k]? = some b ∧ Blk.view (zaR (rho sel h.length) b1) b) ∧
  (∀ (i j k : Nat) b1, i ≠ j → sel[i]? = some k → sel[j]? = some k → h1[i]? = some b1 → b1.rw = false) ∧
  fits un ⟨i, sel, zcL sel h1, some h.length⟩ log ∧
  ((∃ k, k ≠ i ∧ un i k = true) → ∃ v h1', R v h1' ∧ sel.length ≤ h1'.length ∧ zcI h1 h1') ∧
  ∀ v h1', R v h1' → sel.length ≤ h1'.length → zcI h1 h1' → zee h1 h1' ∧ K (⟨i, sel, zcL sel h1, some h.length⟩ :: log) (zbw (rho sel h.length) v) (zdK h sel h1' (rho sel h.length))
def za8 (C : qW) (un : Nat → Nat → Bool) (d : DCell) (log : List Foot) (K : List Foot → St → Prop) (s : St) : Prop :=
 if gJ d.c s.f then False else if zb0 d.c s.f then match d.c.op with
  | .call g args => CallD C un d.i g (args.map (evf s.f)) log (fun l v h => K l ⟨zas s.f d.c.dst v, h⟩) s.h
  | op => if qC op = 0 then (match zQ op (evf s.f) (hf s.h) d.nid with
    | some (v, e) => e.okR d.nid s.h ∧ fits un ⟨d.i, rdE op (evf s.f), e.wr d.nid, none⟩ log ∧ K (zgs ⟨d.i, rdE op (evf s.f), e.wr d.nid, none⟩ log) ⟨zas s.f d.c.dst v, e.onR d.nid s.h⟩
    | none => False)
   else zfQ C op s.f s.h (fun v h => K log ⟨zas s.f d.c.dst v, h⟩)
 else K log ⟨zas s.f d.c.dst undef, s.h⟩
def wpD (C : qW) (un : Nat → Nat → Bool) : List DCell → List Foot → (St → Prop) → St → Prop
 | [], _, K, s => K s
 | d :: r, log, K, s => za8 C un d log (fun log' s' => wpD C un r log' K s') s
def unA (anc : List (List Nat)) (i j : Nat) : Bool := Nat.blt i anc.length && Nat.blt j anc.length && !((anc.getD i []).any (Nat.beq j)) && !((anc.getD j []).any (Nat.beq i))
def zhO (n : Nat) : Value → Bool
 | .pointer (some a) => Nat.blt a.block n
 | .slice (some a) _ _ => Nat.blt a.block n
 | .map (some r) => Nat.blt r n
 | .chan (some r) => Nat.blt r n
 | _ => true
def gbel (n : Nat) : Value → Bool
 | .agg a => a.toList.all (zhO n)
 | v => zhO n v
def vbel (n : Nat) : Value → Bool
 | .tuple a => a.toList.all (gbel n)
 | v => gbel n v
def bbel (n : Nat) : Blk → Bool
 | .cells c _ => c.all (zhO n)
 | .map es => es.all fun e => gbel n e.1 && gbel n e.2
 | .chan _ b => b.all (gbel n)
 | .iter m _ _ => Nat.blt m n
 | .gone => true
structure WkD (B : Nat) (s s0 : St) : Prop where
  base : B ≤ s0.h.length
  pre : s0.h = s.h.take s0.h.length
  regs : ∀ t, s0.f t = junk ∨ (s0.f t = s.f t ∧ vbel s0.h.length (s0.f t) = true)
  blks : ∀ b ∈ s0.h, bbel s0.h.length b = true
structure WkR (B : Nat) (s s0 : St) (sel : List Nat) : Prop where
  len : s0.h.length = sel.length
  base : ∀ i, i < B → sel[i]? = some i
  nodup : sel.Nodup
  regs : ∀ t, s0.f t = junk ∨ zbw (rho sel s.h.length) (s0.f t) = s.f t
  blks : ∀ (i k : Nat) b, sel[i]? = some k → s0.h[i]? = some b → s.h[k]? = some (zaR (rho sel s.h.length) b) ∨ (b = .gone ∧ s.h[k]? = none)
def Wk (B : Nat) (s s0 : St) : Prop := s = s0 ∨ WkD B s s0 ∨ ∃ sel, WkR B s s0 sel
def wpC (C : qW) (B : Nat) : IC → (IExit → St → Prop) → St → Prop
 | .skip, Q, s => Q .normal s
 | .reg ops, Q, s => zbg C ops (Q .normal) s
 | .dreg ops anc, Q, s => wpD C (unA anc) (zbA 0 s.h.length ops) [] (Q .normal) ⟨s.f, s.h ++ List.replicate (zau ops) .gone⟩
 | .seq a b, Q, s => wpC C B a (fun ex s' => match ex with | .normal => ∃ s0, Wk B s' s0 ∧ wpC C B b Q s0 | ex => Q ex s') s
 | .cond c a b, Q, s => match evf s.f c with
  | .bool x => if x then wpC C B a Q s else wpC C B b Q s
  | _ => False
 | .block id b, Q, s => wpC C B b (fun ex s' => match ex with | .exit i => if i = id then Q .normal s' else Q (.exit i) s' | ex => Q ex s') s
 | .loop b, Q, s => ∃ (I : Nat → St → Prop), (∃ n s0, Wk B s s0 ∧ I n s0) ∧ ∀ n s, I n s → wpC C B b (fun ex s' => match ex with | .normal => ∃ m s0, m < n ∧ Wk B s' s0 ∧ I m s0 | ex => Q ex s') s
 | .label _, Q, s => Q .normal s
 | .goto l, Q, s => Q (.goto l) s
 | .scp l r b, Q, s => ∃ (I : Nat → St → Prop), wpC C B b (fun ex s' => match ex with | .goto i => if i = l then ∃ m s0, Wk B s' s0 ∧ I m s0 else Q (.goto i) s' | ex => Q ex s') s ∧
   ∀ n s, I n s → wpC C B r (fun ex s' => match ex with | .goto i => if i = l then ∃ m s0, m < n ∧ Wk B s' s0 ∧ I m s0 else Q (.goto i) s' | ex => Q ex s') s
 | .exit id, Q, s => Q (.exit id) s
 | .ret, Q, s => Q .ret s
 | .bad _, _, _ => False
def zfD (s : St) : List IRes → Option (List Value)
 | [] => some []
 | .tmp t :: r => (zfD s r).map (s.f t :: ·)
 | .cell a n :: r => match ldV (hf s.h) n (s.f a), zfD s r with
  | some v, some l => some (v :: l)
  | _, _ => none
def one (l : List Value) : Value := match l with
 | [v] => v
 | l => .tuple l.toArray
def ziT : Blk → Bool
 | .cells c _ => c.all zbz
 | .map es => es.all fun e => zi1 e.1 && zi1 e.2
 | .chan _ b => b.all zi1
 | .iter _ _ _ => false
 | .gone => true
def reg : List (Nat × Value) → Nat → Value
 | [] => fun _ => junk
 | p :: l => setf (reg l) p.1 p.2
def argL : Nat → List Value → List (Nat × Value)
 | _, [] => []
 | i, v :: r => (i, v) :: argL (i + 1) r
def wpF (C : qW) (fn : IFunc) (args : List Value) (h : List Blk) (R : zdX) : Prop :=
 wpC C h.length fn.body (fun ex s => (match ex with | .exit _ => False | .goto _ => False | _ => True) ∧ ∃ l, zfD s fn.res = some l ∧ (∀ v ∈ l, zbG v = false) ∧
  (R (one l) s.h ∨ (vpf (one l) = true ∧ (∀ b ∈ s.h.take h.length, ziT b = true) ∧ R (one l) (s.h.take h.length)))) ⟨reg (argL 0 args), h⟩
end Go.Rh

namespace Go.Rh
def RunsFrom (P : Program) (ops : Array Oper) (l : List Nat) (Q : Exit → Act → World → Prop) (a : Act) (w : World) : Prop :=
 ∀ (b : Frame) (k : List Item) (cs : List Frame), ∃ e a' w', Q e a' w' ∧ Arrives P (lone (b.at a (.inRegion ops l :: k)) cs w) b k cs e a' w'
def OpTo (P : Program) (ops : Array Oper) (i : Nat) (K : Act → World → Prop) (a : Act) (w : World) : Prop :=
 ∀ (rest : List Nat) (b : Frame) (k : List Item) (cs : List Frame), ∃ a1 w1, K a1 w1 ∧ Steps P (lone (b.at a (.inRegion ops (i :: rest) :: k)) cs w) (lone (b.at a1 (.inRegion ops rest :: k)) cs w1)
section
variable {P : Program} {ops : Array Oper} {a : Act} {w : World} {Q : Exit → Act → World → Prop} {K : Act → World → Prop}
theorem RunsFrom.nil (h : Q .normal a w) : RunsFrom P ops [] Q a w := fun b k cs => ⟨.normal, a, w, h, .one step_region_end⟩
theorem RunsFrom.cons {i : Nat} {rest : List Nat} (h : OpTo P ops i K a w) (hk : ∀ a1 w1, K a1 w1 → RunsFrom P ops rest Q a1 w1) : RunsFrom P ops (i :: rest) Q a w := by
 intro b k cs
 obtain ⟨a1, w1, hK, hs⟩ := h rest b k cs
 obtain ⟨e, a', w', hq, harr⟩ := hk a1 w1 hK b k cs
 exact ⟨e, a', w', hq, .of_steps hs harr⟩
theorem OpTo.mono {i : Nat} {K' : Act → World → Prop} (h : OpTo P ops i K a w) (hk : ∀ a1 w1, K a1 w1 → K' a1 w1) : OpTo P ops i K' a w :=
 fun r b k cs => let ⟨a1, w1, h1, h2⟩ := h r b k cs; ⟨a1, w1, hk _ _ h1, h2⟩
theorem OpTo.skip {i : Nat} {o : Oper} (ho : ops[i]? = some o) (hw : Region.wanted o (yielded ops a.tmps) = false) (h : K (a.put o.dst undef) w) : OpTo P ops i K a w := by
 intro rest b k cs
 refine ⟨_, w, h, .one ?_⟩
 have hs := step_op_skip (P := P) (b := b) (a := a) (k := k) (cs := cs) (w := w) (ops := ops) (i := i) (rest := rest) (by simp [ho, hw])
 simpa [ho] using hs
theorem OpTo.value {i : Nat} {o : Oper} {v : Value} {w' : World} (ho : ops[i]? = some o) (hw : Region.wanted o (yielded ops a.tmps) = true) (hr : (execOp a.eval o).run P w = .ok (.value v) w') (h : K (a.put o.dst v) w') : OpTo P ops i K a w := by
 intro rest b k cs
 have hg := stepG_op (P := P) (b := b) (k := k) (cs := cs) (w := w) (rest := rest) ho hw
 have hfin : ∀ v, (b.at a (.inRegion ops (i :: rest) :: k)).finish v = b.at (a.put o.dst v) (.inRegion ops rest :: k) := by
  intro v; rw [Frame.finish_at, ho]; rfl
 refine ⟨_, w', h, .one (step_lone_go ?_)⟩
 rw [hg, ← hfin]; simp [stepG.apply, hr]
theorem OpTo.skipped {i : Nat} {o : Oper} {w' : World} (ho : ops[i]? = some o) (hw : Region.wanted o (yielded ops a.tmps) = true) (hr : (execOp a.eval o).run P w = .ok .skip w') (h : K (a.put o.dst undef) w') : OpTo P ops i K a w := by
 intro rest b k cs
 have hg := stepG_op (P := P) (b := b) (k := k) (cs := cs) (w := w) (rest := rest) ho hw
 have hfin : ∀ v, (b.at a (.inRegion ops (i :: rest) :: k)).finish v = b.at (a.put o.dst v) (.inRegion ops rest :: k) := by
  intro v; rw [Frame.finish_at, ho]; rfl
 refine ⟨_, w', h, .one (step_lone_go ?_)⟩
 rw [hg, ← hfin]; simp [stepG.apply, hr]
theorem OpTo.runs {i : Nat} {o : Oper} {v : Value} {w' : World} (ho : ops[i]? = some o) (hw : Region.wanted o (yielded ops a.tmps) = true) (hr : Runs P o a w v w') (h : K (a.put o.dst v) w') : OpTo P ops i K a w := by
 rcases hr with hr | ⟨hr, rfl⟩
 ·exact OpTo.value ho hw hr h
 ·exact OpTo.skipped ho hw hr h
theorem OpTo.enter {i : Nat} {o : Oper} {f : FuncId} {args : Array Value} {w' : World} (ho : ops[i]? = some o) (hw : Region.wanted o (yielded ops a.tmps) = true) (hr : (execOp a.eval o).run P w = .ok (.enter f args) w')
  (h : Calls P f args w' fun e w'' => ∃ v, e = .returned v ∧ K (a.put o.dst v) w'') : OpTo P ops i K a w := by
 intro rest b k cs
 have hg := stepG_op (P := P) (b := b) (k := k) (cs := cs) (w := w) (rest := rest) ho hw
 have hfin : ∀ v, (b.at a (.inRegion ops (i :: rest) :: k)).finish v = b.at (a.put o.dst v) (.inRegion ops rest :: k) := by
  intro v; rw [Frame.finish_at, ho]; rfl
 obtain ⟨e, w'', fr, ⟨v, rfl, hK⟩, hsteps, _, hleave⟩ := h (b.at a (.inRegion ops (i :: rest) :: k) :: cs)
 have henter : step P (lone (b.at a (.inRegion ops (i :: rest) :: k)) cs w) =
   .next (lone (Frame.enter P f args .normal) (b.at a (.inRegion ops (i :: rest) :: k) :: cs) w') :=
  step_lone_go (by rw [hg]; simp [stepG.apply, hr, Frame.at])
 refine ⟨_, w'', hK, .head henter (hsteps.trans (.one ?_))⟩
 rw [← hfin]; exact step_leave_returned hleave
theorem ziP {id : Nat} (h : RunsFrom P ops (List.range ops.size) Q a w) : (Code.region id ops false).wp P Q a w :=
 fun b k cs => let ⟨e, a', w', q, r⟩ := h b k cs; ⟨e, a', w', q, .of_steps (.one step_region) r⟩
theorem zf2 {id : Nat} (h : ∀ t, RunsFrom P ops (Region.schedule (P.follows .mixedOrders) ops t) Q a w.drew) : (Code.region id ops true).wp P Q a w :=
 fun b k cs => let ⟨e, a', w', q, r⟩ := h _ b k cs; ⟨e, a', w', q, .of_steps (.one step_region_draw) r⟩
end
theorem zav {l : List Blk} {k : Nat} {b : Blk} : hf l k = some b ↔ l[k]? = some b ∧ b ≠ .gone := by
 unfold hf
 constructor
 ·intro h
  split at h
  ·cases h
  ·rename_i hx; exact ⟨h, fun e => hx (e ▸ h)⟩
 ·rintro ⟨h1, h2⟩
  rw [h1]
  split
  ·rename_i h3; cases h3; exact absurd rfl h2
  ·rfl
theorem zcT {l : List Blk} {k : Nat} (h : l[k]? = none) : hf l k = none := by unfold hf; rw [h]
theorem zda {l : List Blk} {k : Nat} (h : l[k]? = some .gone) : hf l k = none := by unfold hf; rw [h]
theorem zeE {l : List Blk} {k : Nat} {b : Blk} (h : hf l k = some b) : l[k]? = some b := (zav.1 h).1
structure FrC (φ0 : Phi) (h0 : List Blk) (w0 : World) (φ : Phi) (h : List Blk) (w : World) : Prop where
  size : w0.heap.size ≤ w.heap.size
  keep : ∀ b, b < w0.heap.size → (∀ k blk o, h0[k]? = some blk → blk.rw = true → φ0 k ≠ some (b, o)) → w.heap[b]? = w0.heap[b]?
  os : w.os = w0.os
  tape : w.tape = w0.tape
  output : w.output = w0.output
  le : Le φ0 φ
  new : ∀ k b o, φ k = some (b, o) → φ0 k = some (b, o) ∨ w0.heap.size ≤ b
  len : h0.length ≤ h.length
  flags : ∀ (k : Nat) b b', h0[k]? = some b → h[k]? = some b' → b'.rw = b.rw
theorem FrC.refl (φ : Phi) (h : List Blk) (w : World) : FrC φ h w φ h w :=
 ⟨Nat.le_refl _, fun _ _ _ => rfl, rfl, rfl, rfl, Le.refl _, fun _ _ _ e => .inl e, Nat.le_refl _, fun _ _ _ h1 h2 => by rw [h1] at h2; cases h2; rfl⟩
theorem FrC.trans {φ0 φ1 φ2 : Phi} {h0 h1 h2 : List Blk} {w0 w1 w2 : World} (H0 : HR φ0 (hf h0) w0) (H1 : HR φ1 (hf h1) w1) (A : FrC φ0 h0 w0 φ1 h1 w1) (B : FrC φ1 h1 w1 φ2 h2 w2) : FrC φ0 h0 w0 φ2 h2 w2 := by
 refine ⟨Nat.le_trans A.size B.size, ?_, B.os.trans A.os, B.tape.trans A.tape, B.output.trans A.output, A.le.trans B.le, ?_, Nat.le_trans A.len B.len, ?_⟩
 ·intro b hb hx
  rw [B.keep b (Nat.lt_of_lt_of_le hb A.size) ?_, A.keep b hb hx]
  intro k blk o hk hrw hφ
  rcases A.new k b o hφ with h | h
  ·have : ∃ blk0, h0[k]? = some blk0 := by
    cases hq : h0[k]? with
    | some x => exact ⟨x, rfl⟩
    | none => have := H0.nil k (zcT hq); rw [this] at h; cases h
   obtain ⟨blk0, h0k⟩ := this
   have hfl := A.flags k blk0 blk h0k hk
   exact hx k blk0 o h0k (hfl ▸ hrw) h
  ·omega
 ·intro k b o hφ
  rcases B.new k b o hφ with h | h
  ·exact A.new k b o h
  ·exact .inr (Nat.le_trans A.size h)
 ·intro k b b' hk hk'
  have : ∃ b1, h1[k]? = some b1 := by
   have : k < h0.length := by
    rcases Nat.lt_or_ge k h0.length with h | h
    ·exact h
    ·simp [List.getElem?_eq_none h] at hk
   exact ⟨h1[k]'(Nat.lt_of_lt_of_le this A.len), by simp [Nat.lt_of_lt_of_le this A.len]⟩
  obtain ⟨b1, hb1⟩ := this
  exact (B.flags k b1 b' hb1 hk').trans (A.flags k b b1 hk hb1)
theorem zhC (l : List Blk) (k : Nat) (b : Blk) (hk : k < l.length) (hb : b ≠ .gone) : hf (l.set k b) = zdZ (hf l) k b := by
 funext j
 unfold hf zdZ
 rw [List.getElem?_set]
 by_cases hj : j = k
 ·subst hj
  simp only [if_true, hk]
  split
  ·rename_i h; cases h; exact absurd rfl hb
  ·rfl
 ·simp [hj, Ne.symm hj]
theorem zhc {l : List Blk} {k : Nat} (h : hf l k ≠ none) : k < l.length := by
 rcases Nat.lt_or_ge k l.length with h' | h'
 ·exact h'
 ·exact absurd (zcT (List.getElem?_eq_none h')) h
theorem hf_push (l : List Blk) (b : Blk) (hb : b ≠ .gone) : hf (l ++ [b]) = zdZ (hf l) l.length b := by
 funext j
 unfold hf zdZ
 by_cases hj : j = l.length
 ·subst hj
  simp only [List.getElem?_concat_length, if_true]
  split
  ·rename_i h; cases h; exact absurd rfl hb
  ·rfl
 ·rcases Nat.lt_or_ge j l.length with h | h
  ·simp [hj, List.getElem?_append_left h]
  ·have h2 : l.length + 1 ≤ j := by omega
   simp [hj, List.getElem?_eq_none h, h2]
theorem zfc (l : List Blk) : hf l l.length = none := zcT (by simp)
theorem zeZ {op : IOp} {e : Opd → Value} {h : Nat → Option Blk} {n : Nat} {v : Value} {k : Nat} {b : Blk} (hs : zQ op e h n = some (v, .set k b)) : h k ≠ none ∧ b ≠ .gone := by
 cases op with
 | st m x y =>
  simp only [zQ] at hs
  split at hs <;> cases hs
  rename_i f hf
  unfold stV at hf
  split at hf <;> try cases hf
  split at hf <;> try cases hf
  split at hf <;> try cases hf
  rename_i hk
  split at hf <;> cases hf
  rw [hk]; exact ⟨by simp, by simp⟩
 | cpy s d x =>
  simp only [zQ] at hs
  split at hs <;> try cases hs
  split at hs <;> try cases hs
  split at hs <;> try cases hs
  split at hs <;> try cases hs
  rename_i hk
  split at hs <;> cases hs
  rw [hk]; exact ⟨by simp, by simp⟩
 | mup kt m x y =>
  simp only [zQ] at hs
  split at hs <;> try cases hs
  split at hs <;> try cases hs
  split at hs <;> try cases hs
  rename_i hk
  split at hs <;> try cases hs
  ·rw [hk]; exact ⟨by simp, by simp⟩
  ·split at hs <;> cases hs
   rw [hk]; exact ⟨by simp, by simp⟩
 | _ =>
  simp only [zQ] at hs
  first | cases hs; done | skip
  all_goals (repeat' (split at hs)) <;> cases hs
theorem zfy {op : IOp} {e : Opd → Value} {h : Nat → Option Blk} {n : Nat} {v : Value} {b : Blk} (hs : zQ op e h n = some (v, .push b)) : b ≠ .gone ∧ b.rw = true ∧ op.makes = true := by
 cases op with
 | new z => simp only [zQ] at hs; cases hs; exact ⟨by simp, rfl, rfl⟩
 | box x => simp only [zQ] at hs; split at hs <;> cases hs; exact ⟨by simp, rfl, rfl⟩
 | bsl z s l ps => simp only [zQ] at hs; split at hs <;> cases hs; exact ⟨by simp, rfl, rfl⟩
 | mks z s b l c =>
  simp only [zQ] at hs
  split at hs <;> try cases hs
  split at hs <;> cases hs
  exact ⟨by simp, rfl, rfl⟩
 | mkm => simp only [zQ] at hs; cases hs; exact ⟨by simp, rfl, rfl⟩
 | mkc n => simp only [zQ] at hs; cases hs; exact ⟨by simp, rfl, rfl⟩
 | st m x y =>
  simp only [zQ] at hs
  split at hs <;> cases hs
  rename_i hf
  unfold stV at hf
  split at hf <;> try cases hf
  split at hf <;> try cases hf
  split at hf <;> try cases hf
  split at hf <;> cases hf
 | _ =>
  simp only [zQ] at hs
  first | cases hs; done | skip
  all_goals (repeat' (split at hs)) <;> cases hs
end Go.Rh

namespace Go.Rh
theorem FrC.of_fr {φ φ' : Phi} {h h' : List Blk} {w w' : World} (F : Fr φ (hf h) w φ' (hf h') w') (hl : h.length ≤ h'.length) (hfl : ∀ (k : Nat) b b', h[k]? = some b → h'[k]? = some b' → b'.rw = b.rw) : FrC φ h w φ' h' w' :=
 ⟨F.size, fun b hb hx => F.keep b hb fun k blk o hk => hx k blk o (zeE hk), F.os, F.tape, F.output, F.le, F.new, hl, hfl⟩
theorem zjn (h l : List Blk) : ∀ (k : Nat) b b', h[k]? = some b → (h ++ l)[k]? = some b' → b'.rw = b.rw := by
 intro k b b' h1 h2
 have : k < h.length := by
  rcases Nat.lt_or_ge k h.length with h' | h'
  ·exact h'
  ·rw [List.getElem?_eq_none h'] at h1; cases h1
 rw [List.getElem?_append_left this, h1] at h2; cases h2; rfl
theorem zgJ {h : List Blk} {k : Nat} {x : Blk} (hx : ∀ b, h[k]? = some b → x.rw = b.rw) : ∀ (j : Nat) b b', h[j]? = some b → (h.set k x)[j]? = some b' → b'.rw = b.rw := by
 intro j b b' h1 h2
 rw [List.getElem?_set] at h2
 split at h2
 ·rename_i e; subst e
  split at h2 <;> cases h2
  exact hx b h1
 ·rw [h1] at h2; cases h2; rfl
theorem Fr.set_rw {φ φ' : Phi} {h : List Blk} {w w' : World} {k : Nat} {x : Blk} (F : Fr φ (hf h) w φ' (zdZ (hf h) k x) w') (hk : hf h k ≠ none) : ∀ b, h[k]? = some b → x.rw = b.rw := by
 intro b hb
 cases hq : hf h k with
 | none => exact absurd hq hk
 | some y =>
  have := zeE hq
  rw [hb] at this; cases this
  exact F.flags k b x hq (by simp [zdZ])
structure Inv (n : Nat) (φ0 : Phi) (h0 : List Blk) (w0 : World) (φ : Phi) (s : St) (a : Act) (w : World) : Prop where
  size : n ≤ a.tmps.size
  regs : ∀ t, VR φ (s.f t) (a.tmps.getD t undef)
  defers : a.defers = []
  heap : HR φ (hf s.h) w
  fr : FrC φ0 h0 w0 φ s.h w
def Sim (n : Nat) (φ0 : Phi) (h0 : List Blk) (w0 : World) (K : St → Prop) (a : Act) (w : World) : Prop := ∃ φ s, K s ∧ Inv n φ0 h0 w0 φ s a w
section
variable {P : Program} {ops : Array Oper} {a : Act} {w : World} {n : Nat} {φ0 : Phi} {h0 : List Blk} {w0 : World} {φ : Phi} {s : St}
theorem Inv.ev (I : Inv n φ0 h0 w0 φ s a w) : ∀ x y, opd x = some y → VR φ (evf s.f y) (a.eval x) := by
 intro x y hx
 cases x with
 | tmp t => simp only [opd, Option.some.injEq] at hx; subst hx; exact I.regs t
 | const v =>
  simp only [opd] at hx
  split at hx <;> cases hx
  rename_i hv
  exact VR.of_vpf hv
 | global g => simp [opd] at hx
 | func f => simp [opd] at hx
theorem getD_put (a : Act) (d : Option Nat) (v : Value) (t : Nat) : (a.put d v).tmps.getD t undef = (match d with | some d => if d = t ∧ d < a.tmps.size then v else a.tmps.getD t undef | none => a.tmps.getD t undef) := by
 cases d with
 | none => rfl
 | some d =>
  simp only [Act.put, Array.getD_eq_getD_getElem?, Array.getElem?_setIfInBounds]
  by_cases h : d = t
  ·subst h
   by_cases h2 : d < a.tmps.size
   ·simp [h2]
   ·simp [h2]
  ·simp [h]
theorem size_put (a : Act) (d : Option Nat) (v : Value) : (a.put d v).tmps.size = a.tmps.size := by
 cases d <;> simp [Act.put]
theorem defers_put (a : Act) (d : Option Nat) (v : Value) : (a.put d v).defers = a.defers := by
 cases d <;> simp [Act.put]
theorem Inv.step (I : Inv n φ0 h0 w0 φ s a w) (H0 : HR φ0 (hf h0) w0) {d : Option Nat} (hd : ∀ t, d = some t → t < n) {v v' : Value} {φ' : Phi} {h' : List Blk} {w' : World} (hv : VR φ' v v') (hh : HR φ' (hf h') w') (F : FrC φ s.h w φ' h' w') :
  Inv n φ0 h0 w0 φ' ⟨zas s.f d v, h'⟩ (a.put d v') w' := by
 refine ⟨by rw [size_put]; exact I.size, ?_, by rw [defers_put]; exact I.defers, hh, FrC.trans H0 I.heap I.fr F⟩
 intro t
 rw [getD_put]
 cases d with
 | none => exact (I.regs t).mono F.le
 | some d =>
  simp only [zas, setf]
  by_cases h : t = d
  ·subst h
   have := hd t rfl
   simp only [if_true]
   rw [if_pos ⟨trivial, by have := I.size; omega⟩]
   exact hv
  ·rw [if_neg h, if_neg (fun hh => h hh.1.symm)]
   exact (I.regs t).mono F.le
theorem Does.step {o : Oper} {v : Value} {f : Eff} (D : Does P o a w φ (hf s.h) s.h.length v f) (hset : ∀ k b, f = .set k b → hf s.h k ≠ none ∧ b ≠ .gone) (hpush : ∀ b, f = .push b → b ≠ .gone) :
  ∃ φ' v' w', Runs P o a w v' w' ∧ VR φ' v v' ∧ HR φ' (hf (f.on s.h)) w' ∧ FrC φ s.h w φ' (f.on s.h) w' := by
 obtain ⟨φ', v', w', hr, hv, hh, F⟩ := D
 cases f with
 | no => exact ⟨φ', v', w', hr, hv, hh, FrC.of_fr F (Nat.le_refl _) (fun k b b' h1 h2 => by rw [show Eff.no.on s.h = s.h from rfl, h1] at h2; cases h2; rfl)⟩
 | set k b =>
  obtain ⟨h1, h2⟩ := hset k b rfl
  simp only [Eff.onF] at hh F
  refine ⟨φ', v', w', hr, hv, by simp only [Eff.on]; rw [zhC _ _ _ (zhc h1) h2]; exact hh, FrC.of_fr (by simp only [Eff.on]; rw [zhC _ _ _ (zhc h1) h2]; exact F) (by simp [Eff.on]) (zgJ (F.set_rw h1))⟩
 | push b =>
  have h2 := hpush b rfl
  simp only [Eff.onF] at hh F
  exact ⟨φ', v', w', hr, hv, by simp only [Eff.on]; rw [hf_push _ _ h2]; exact hh, FrC.of_fr (by simp only [Eff.on]; rw [hf_push _ _ h2]; exact F) (by simp [Eff.on]) (zjn _ _)⟩
theorem VR.bool_inv {v : Value} {b : Bool} (h : VR φ v (.bool b)) (hj : ∀ k r i, v ≠ .complex k r i) : v = .bool b := by
 cases v <;> simp only [VR, GR] at h
 case complex => exact absurd rfl (hj _ _ _)
 case agg => obtain ⟨_, h, _⟩ := h; cases h
 case tuple => obtain ⟨_, h, _⟩ := h; cases h
 all_goals
  unfold SR at h
  split at h
  all_goals first
   | (obtain ⟨_, h, _⟩ := h; cases h; done)
   | (obtain ⟨_, h⟩ := h; rw [← h]; done)
   | (obtain ⟨_, h⟩ := h; cases h; done)
theorem zf1 (I : Inv n φ0 h0 w0 φ s a w) {j d : Nat} (hd : (ops[j]?).bind (·.dst) = some d) (hj : ∀ k r i, s.f d ≠ .complex k r i) : yielded ops a.tmps j = (match s.f d with | .bool x => some x | _ => none) := by
 have hr := I.regs d
 unfold yielded
 rw [hd]
 simp only [Option.bind_some]
 rw [Array.getD_eq_getD_getElem?] at hr
 cases ht : a.tmps[d]? with
 | none =>
  rw [ht] at hr
  simp only [Option.getD_none] at hr
  split <;> rename_i hx
  ·cases hx
  ·split
   ·rename_i x hs; rw [hs] at hr; have := hr.bool; cases this
   ·rfl
 | some u =>
  rw [ht] at hr
  simp only [Option.getD_some] at hr
  split
  ·rename_i b hb
   cases hb
   rw [hr.bool_inv hj]
  ·rename_i hb
   split
   ·rename_i x hs; rw [hs] at hr; exact absurd (congrArg some hr.bool) (hb x)
   ·rfl
def cut (m : Nat) (φ : Phi) : Phi := fun k => if k < m then φ k else none
theorem SR.cut {m : Nat} {v v' : Value} (hb : zhO m v = true) (h : SR φ v v') : SR (cut m φ) v v' := by
 unfold SR at *
 split at h
 ·obtain ⟨a', rfl, h1, b, o, h2, h3⟩ := h
  simp only [zhO, Nat.blt_eq] at hb
  exact ⟨a', rfl, h1, b, o, by simp [Go.Rh.cut, hb, h2], h3⟩
 ·obtain ⟨a', rfl, h1, b, o, h2, h3⟩ := h
  simp only [zhO, Nat.blt_eq] at hb
  exact ⟨a', rfl, h1, b, o, by simp [Go.Rh.cut, hb, h2], h3⟩
 ·obtain ⟨b, rfl, h2⟩ := h
  simp only [zhO, Nat.blt_eq] at hb
  exact ⟨b, rfl, by simp [Go.Rh.cut, hb, h2]⟩
 ·obtain ⟨b, rfl, h2⟩ := h
  simp only [zhO, Nat.blt_eq] at hb
  exact ⟨b, rfl, by simp [Go.Rh.cut, hb, h2]⟩
 ·exact h
theorem Each.mono3 {R R' : Value → Value → Prop} {l l' : List Value} {p : Value → Bool} (hp : l.all p = true) (h : Each R l l') (hr : ∀ v v', p v = true → R v v' → R' v v') : Each R' l l' :=
 ⟨h.1, fun i v v' h1 h2 => hr v v' (List.all_eq_true.1 hp v (List.mem_of_getElem? h1)) (h.2 i v v' h1 h2)⟩
theorem GR.cut {m : Nat} {v v' : Value} (hb : gbel m v = true) (h : GR φ v v') : GR (Go.Rh.cut m φ) v v' := by
 cases v <;> simp only [GR, gbel] at h hb ⊢
 case agg x => obtain ⟨a', rfl, h⟩ := h; exact ⟨a', rfl, h.mono3 hb fun _ _ => SR.cut⟩
 all_goals exact SR.cut hb h
theorem VR.cut {m : Nat} {v v' : Value} (hb : vbel m v = true) (h : VR φ v v') : VR (Go.Rh.cut m φ) v v' := by
 cases v <;> simp only [VR, vbel] at h hb ⊢
 case tuple x => obtain ⟨a', rfl, h⟩ := h; exact ⟨a', rfl, h.mono3 hb fun _ _ => GR.cut⟩
 all_goals exact GR.cut hb h
theorem BR.cut {m b o : Nat} {blk : Blk} (hb : bbel m blk = true) (h : BR φ w b o blk) : BR (Go.Rh.cut m φ) w b o blk := by
 cases blk with
 | cells c rw =>
  obtain ⟨c', T, fr, h1, h2, h3, h4⟩ := h
  exact ⟨c', T, fr, h1, h2, h3.mono3 hb fun _ _ => SR.cut, h4⟩
 | map es =>
  obtain ⟨h0, ms, cl, h1, h2, h3, h4⟩ := h
  simp only [bbel, List.all_eq_true, Bool.and_eq_true] at hb
  refine ⟨h0, ms, cl, h1, h2.mono3 (p := gbel m) ?_ fun _ _ => GR.cut, h3.mono3 (p := gbel m) ?_ fun _ _ => GR.cut, h4⟩
  ·simp only [List.all_map, List.all_eq_true]; exact fun e he => (hb e he).1
  ·simp only [List.all_map, List.all_eq_true]; exact fun e he => (hb e he).2
 | chan c bf =>
  obtain ⟨h0, b', s, r, h1, h2⟩ := h
  exact ⟨h0, b', s, r, h1, h2.mono3 hb fun _ _ => GR.cut⟩
 | iter k n seen =>
  obtain ⟨h0, bm, h1, h2⟩ := h
  simp only [bbel, Nat.blt_eq] at hb
  exact ⟨h0, bm, by simp [Go.Rh.cut, hb, h1], h2⟩
 | gone => exact h
theorem VR.junk {v' : Value} : VR φ junk v' := trivial
end
end Go.Rh

namespace Go.Rh
def ACalls (P : Program) (f : FuncId) (args : List Value) (h : List Blk) (R : zdX) : Prop :=
 ∀ (w : World) (φ : Phi) (args' : Array Value), HR φ (hf h) w → args.length = args'.size → (∀ (i : Nat) v v', args[i]? = some v → args'[i]? = some v' → VR φ v v') →
  Calls P f args' w fun e w' => ∃ v v' h' φ', e = .returned v' ∧ R v h' ∧ VR φ' v v' ∧ HR φ' (hf h') w' ∧ FrC φ h w φ' h' w'
def ziM (P : Program) (C : qW) : Prop := ∀ g args h R, C g args h R → ∀ f fn, P.funcs[f]? = some fn → fn.name = g → ACalls P f args h R
theorem Each.map_left {R : Value → Value → Prop} {g : Value → Value} {l l' : List Value} : Each R (l.map g) l' ↔ Each (fun v v' => R (g v) v') l l' := by
 constructor
 ·rintro ⟨h1, h2⟩
  refine ⟨by simpa using h1, fun i v v' hv hv' => h2 i (g v) v' (by simp [hv]) hv'⟩
 ·rintro ⟨h1, h2⟩
  refine ⟨by simpa using h1, fun i v v' hv hv' => ?_⟩
  simp only [List.getElem?_map, Option.map_eq_some_iff] at hv
  obtain ⟨u, hu, rfl⟩ := hv
  exact h2 i u v' hu hv'
theorem SR.ren {φ : Phi} {ρ : Nat → Nat} {v v' : Value} : SR φ (zet ρ v) v' ↔ SR (fun i => φ (ρ i)) v v' := by
 cases v with
 | pointer a => cases a <;> simp [zet, SR, AddrR, renA]
 | slice a l c => cases a <;> simp [zet, SR, AddrR, renA]
 | map r => cases r <;> simp [zet, SR]
 | chan r => cases r <;> simp [zet, SR]
 | _ => simp [zet, SR]
theorem GR.ren {φ : Phi} {ρ : Nat → Nat} {v v' : Value} : GR φ (zfX ρ v) v' ↔ GR (fun i => φ (ρ i)) v v' := by
 cases v with
 | agg a =>
  simp only [zfX, GR, Array.toList_map, Each.map_left]
  constructor
  ·rintro ⟨a', h1, h2⟩; exact ⟨a', h1, h2.mono fun _ _ => SR.ren.1⟩
  ·rintro ⟨a', h1, h2⟩; exact ⟨a', h1, h2.mono fun _ _ => SR.ren.2⟩
 | pointer a => cases a <;> simp [zfX, GR, zet, SR, AddrR, renA]
 | slice a l c => cases a <;> simp [zfX, GR, zet, SR, AddrR, renA]
 | map r => cases r <;> simp [zfX, GR, zet, SR]
 | chan r => cases r <;> simp [zfX, GR, zet, SR]
 | _ => simp [zfX, GR, zet, SR]
theorem VR.ren {φ : Phi} {ρ : Nat → Nat} {v v' : Value} : VR φ (zbw ρ v) v' ↔ VR (fun i => φ (ρ i)) v v' := by
 cases v with
 | tuple a =>
  simp only [zbw, VR, Array.toList_map, Each.map_left]
  constructor
  ·rintro ⟨a', h1, h2⟩; exact ⟨a', h1, h2.mono fun _ _ => GR.ren.1⟩
  ·rintro ⟨a', h1, h2⟩; exact ⟨a', h1, h2.mono fun _ _ => GR.ren.2⟩
 | agg a => exact GR.ren (v := .agg a)
 | pointer a => cases a <;> simp [zbw, zfX, VR, GR, zet, SR, AddrR, renA]
 | slice a l c => cases a <;> simp [zbw, zfX, VR, GR, zet, SR, AddrR, renA]
 | map r => cases r <;> simp [zbw, zfX, VR, GR, zet, SR]
 | chan r => cases r <;> simp [zbw, zfX, VR, GR, zet, SR]
 | _ => simp [zbw, zfX, VR, GR, zet, SR]
theorem BR.ren {φ : Phi} {ρ : Nat → Nat} {w : World} {b o : Nat} {blk : Blk} : BR φ w b o (zaR ρ blk) ↔ BR (fun i => φ (ρ i)) w b o blk := by
 cases blk with
 | cells c rw =>
  simp only [zaR, BR, List.length_map, Each.map_left]
  constructor
  ·rintro ⟨c', T, fr, h1, h2, h3, h4⟩; exact ⟨c', T, fr, h1, h2, h3.mono fun _ _ => SR.ren.1, h4⟩
  ·rintro ⟨c', T, fr, h1, h2, h3, h4⟩; exact ⟨c', T, fr, h1, h2, h3.mono fun _ _ => SR.ren.2, h4⟩
 | map es =>
  have e1 : (es.map fun e => (zfX ρ e.1, zfX ρ e.2)).map (·.1) = (es.map (·.1)).map (zfX ρ) := by simp [Function.comp_def]
  have e2 : (es.map fun e => (zfX ρ e.1, zfX ρ e.2)).map (·.2) = (es.map (·.2)).map (zfX ρ) := by simp [Function.comp_def]
  simp only [zaR, BR, e1, e2]
  constructor
  ·rintro ⟨h0, ms, cl, h1, h2, h3, h4⟩; exact ⟨h0, ms, cl, h1, (Each.map_left.1 h2).mono fun _ _ => GR.ren.1, (Each.map_left.1 h3).mono fun _ _ => GR.ren.1, h4⟩
  ·rintro ⟨h0, ms, cl, h1, h2, h3, h4⟩; exact ⟨h0, ms, cl, h1, Each.map_left.2 (h2.mono fun _ _ => GR.ren.2), Each.map_left.2 (h3.mono fun _ _ => GR.ren.2), h4⟩
 | iter m n seen => exact Iff.rfl
 | gone => exact Iff.rfl
 | chan n bf =>
  simp only [zaR, BR]
  constructor
  ·rintro ⟨h0, b', s, r, h1, h2⟩; exact ⟨h0, b', s, r, h1, (Each.map_left.1 h2).mono fun _ _ => GR.ren.1⟩
  ·rintro ⟨h0, b', s, r, h1, h2⟩; exact ⟨h0, b', s, r, h1, Each.map_left.2 (h2.mono fun _ _ => GR.ren.2)⟩
theorem ze8 (ρ : Nat → Nat) (b : Blk) : (zaR ρ b).rw = b.rw := by cases b <;> rfl
theorem seen_rw {b b' : Blk} (h : Blk.seen b b') (hr : b.rw = true) : b'.rw = true := by
 unfold Blk.seen at h
 split at h
 ·exact h.2 hr
 ·exact h.elim
 ·subst h; exact hr
theorem zb8 {ρ : Nat → Nat} {b : Blk} : zaR ρ b = .gone ↔ b = .gone := by cases b <;> simp [zaR]
theorem zib {ρ : Nat → Nat} {b b' : Blk} (h : Blk.seen (zaR ρ b) b') : b ≠ .gone ∧ b' ≠ .gone := by
 cases b with
 | gone => simp only [zaR, Blk.seen] at h
 | cells c rw =>
  refine ⟨by simp, ?_⟩
  rintro rfl
  simp [zaR, Blk.seen] at h
 | map es =>
  refine ⟨by simp, ?_⟩
  rintro rfl
  simp [zaR, Blk.seen] at h
 | iter m n seen =>
  refine ⟨by simp, ?_⟩
  rintro rfl
  simp [zaR, Blk.seen] at h
 | chan n bf =>
  refine ⟨by simp, ?_⟩
  rintro rfl
  simp [zaR, Blk.seen] at h
theorem BR.seen {φ : Phi} {w : World} {b o : Nat} {blk blk' : Blk} (h : Blk.seen blk blk') (hb : BR φ w b o blk') : BR φ w b o blk := by
 unfold Blk.seen at h
 split at h
 ·obtain ⟨rfl, hr⟩ := h
  obtain ⟨c', T, fr, h1, h2, h3, h4⟩ := hb
  exact ⟨c', T, fr, h1, h2, h3, fun e => h4 (hr e)⟩
 ·exact h.elim
 ·subst h; exact hb
theorem zdn {k : Nat} {b : Blk} : ∀ {sel : List Nat} {h : List Blk}, zeB k sel h = some b → ∃ i : Nat, sel[i]? = some k ∧ h[i]? = some b ∧ b.rw = true
 | [], _, h => by simp [zeB] at h
 | _ :: _, [], h => by simp [zeB] at h
 | s :: ss, c :: cs, h => by
  simp only [zeB] at h
  split at h
  ·rename_i hc; cases h; exact ⟨0, by simp [hc.1], rfl, hc.2⟩
  ·obtain ⟨i, h1, h2, h3⟩ := zdn h; exact ⟨i + 1, by simpa using h1, by simpa using h2, h3⟩
theorem over_none {k : Nat} : ∀ {sel : List Nat} {h : List Blk}, zeB k sel h = none → ∀ (i : Nat) b, sel[i]? = some k → h[i]? = some b → b.rw = false
 | [], _, _, i, b, h1, _ => by simp at h1
 | _ :: _, [], _, i, b, _, h2 => by simp at h2
 | s :: ss, c :: cs, h, i, b, h1, h2 => by
  simp only [zeB] at h
  split at h <;> try cases h
  rename_i hc
  cases i with
  | zero => simp at h1 h2; subst h1; subst h2; simpa using hc
  | succ i => exact over_none h i b (by simpa using h1) (by simpa using h2)
theorem zc1 {sel : List Nat} {n i k : Nat} (h : sel[i]? = some k) : rho sel n i = k := by simp [rho, h]
theorem zgB {sel : List Nat} {n i : Nat} (h : sel.length ≤ i) : rho sel n i = n + (i - sel.length) := by simp [rho, List.getElem?_eq_none h]
theorem zJ {α : Type} {l : List α} {i : Nat} {x : α} (h : l[i]? = some x) : i < l.length := by
 rcases Nat.lt_or_ge i l.length with h' | h'
 ·exact h'
 ·simp [List.getElem?_eq_none h'] at h
theorem zbV {h : List Blk} {sel : List Nat} {h1 : List Blk} {ρ : Nat → Nat} {k : Nat} (hk : k < h.length) : (zdK h sel h1 ρ)[k]? = some (match zeB k sel h1 with | some b' => zaR ρ b' | none => h[k]) := by
 unfold zdK
 rw [List.getElem?_append_left (by simpa using hk)]
 simp [hk]
 all_goals (cases zeB k sel h1 <;> rfl)
theorem zbv {h : List Blk} {sel : List Nat} {h1 : List Blk} {ρ : Nat → Nat} {k : Nat} (hk : h.length ≤ k) : (zdK h sel h1 ρ)[k]? = (h1[sel.length + (k - h.length)]?).map (zaR ρ) := by
 unfold zdK
 rw [List.getElem?_append_right (by simpa using hk)]
 simp
def Blk.seenW (a b : Blk) : Prop := Blk.seen a b ∨ Blk.hid a b
theorem zht {a b : Blk} (h : Blk.view a b) : Blk.seenW a b ∨ a = .gone ∧ b = .gone := by
 rcases h with (h | h) | h
 ·exact .inl (.inl h)
 ·exact .inr h
 ·exact .inl (.inr h)
theorem zhN {b b' : Blk} (h : Blk.seenW b b') (hr : b.rw = true) : b'.rw = true := by
 rcases h with h | ⟨rfl, _⟩
 ·exact seen_rw h hr
 ·cases hr
theorem zdR {ρ : Nat → Nat} {b b' : Blk} (h : Blk.seenW (zaR ρ b) b') : b ≠ .gone ∧ b' ≠ .gone := by
 rcases h with h | ⟨h, c, rw, rfl⟩
 ·exact zib h
 ·refine ⟨?_, by simp⟩
  rintro rfl
  cases h
theorem BR.seenW {φ : Phi} {w : World} {b o : Nat} {blk blk' : Blk} (h : Blk.seenW blk blk') (hb : BR φ w b o blk') : BR φ w b o blk := by
 rcases h with h | ⟨rfl, c, rw, rfl⟩
 ·exact BR.seen h hb
 ·obtain ⟨c', T, fr, h1, h2, h3, h4⟩ := hb
  exact ⟨c', T, fr, h1, by simp only [List.length_nil]; omega, by simpa using Each.nil _, fun e => by cases e⟩
theorem goneL_of {ρ : Nat → Nat} {h : List Blk} {sel : List Nat} {h1 : List Blk} (hl : h1.length = sel.length) (hs : ∀ (i k : Nat) b1, sel[i]? = some k → h1[i]? = some b1 → ∃ b, h[k]? = some b ∧ Blk.seen (zaR ρ b1) b) (h1' : List Blk) : zee h1 h1' := by
 intro i hi
 have := zJ hi
 obtain ⟨b, _, hb⟩ := hs i _ _ (List.getElem?_eq_getElem (show i < sel.length by omega)) hi
 exact absurd rfl (zib hb).1
theorem callee_heap {φ : Phi} {h : List Blk} {w : World} (H : HR φ (hf h) w) {sel : List Nat} {h1 : List Blk} (hl : h1.length = sel.length)
  (hs : ∀ (i k : Nat) b1, sel[i]? = some k → h1[i]? = some b1 → ∃ b, h[k]? = some b ∧ Blk.view (zaR (rho sel h.length) b1) b)
  (hd : ∀ (i j k : Nat) b1, i ≠ j → sel[i]? = some k → sel[j]? = some k → h1[i]? = some b1 → b1.rw = false) :
  HR (fun i => φ (rho sel h.length i)) (hf h1) w := by
 have sel_of : ∀ {i : Nat} {b1 : Blk}, h1[i]? = some b1 → ∃ k, sel[i]? = some k := fun {i b1} hi => by
  have := zJ hi
  exact ⟨sel[i]'(by omega), by simp [show i < sel.length by omega]⟩
 have nil_of : ∀ {i : Nat}, sel.length ≤ i → φ (rho sel h.length i) = none := fun {i} hi => by
  rw [zgB hi]; exact H.nil _ (zcT (List.getElem?_eq_none (by omega)))
 refine ⟨?_, ?_, ?_⟩
 ·intro i b1 hi
  have hng := (zav.1 hi).2
  replace hi := zeE hi
  obtain ⟨k, hk⟩ := sel_of hi
  obtain ⟨b, hb, hsn⟩ := hs i k b1 hk hi
  have hsn := (zht hsn).resolve_right fun q => hng (zb8.1 q.1)
  obtain ⟨rb, ro, hφ, hB⟩ := H.has k b (zav.2 ⟨hb, (zdR hsn).2⟩)
  exact ⟨rb, ro, by simp only [zc1 hk]; exact hφ, BR.ren.1 (BR.seenW hsn hB)⟩
 ·intro i hi
  rcases Nat.lt_or_ge i h1.length with h' | h'
  ·have hi' : h1[i]? = some h1[i] := by simp [h']
   obtain ⟨k, hk⟩ := sel_of hi'
   obtain ⟨b, hb, hsn⟩ := hs i k _ hk hi'
   rcases zht hsn with hsn | ⟨_, hbg⟩
   ·rw [zav.2 ⟨hi', (zdR hsn).1⟩] at hi; cases hi
   ·simp only [zc1 hk]; exact H.nil _ (zda (hbg ▸ hb))
  ·exact nil_of (by omega)
 ·intro i j b1 rb ro rb' ro' hij hi hrw e1 e2
  have hng := (zav.1 hi).2
  replace hi := zeE hi
  obtain ⟨k, hk⟩ := sel_of hi
  obtain ⟨b, hb, hsn⟩ := hs i k b1 hk hi
  have hsn := (zht hsn).resolve_right fun q => hng (zb8.1 q.1)
  simp only [zc1 hk] at e1
  rcases Nat.lt_or_ge j sel.length with hj | hj
  ·have hk' : sel[j]? = some sel[j] := by simp [hj]
   simp only [zc1 hk'] at e2
   by_cases hkk : sel[j] = k
   ·have := hd i j k b1 hij hk (hkk ▸ hk') hi
    rw [this] at hrw; cases hrw
   ·exact H.apart k sel[j] b rb ro rb' ro' (fun e => hkk e.symm) (zav.2 ⟨hb, (zdR hsn).2⟩) (zhN hsn (by rw [ze8]; exact hrw)) e1 e2
  ·rw [nil_of hj] at e2; cases e2
theorem caller_heap {φ φ1' : Phi} {h : List Blk} {w w' : World} (H : HR φ (hf h) w) {sel : List Nat} {h1 h1' : List Blk} (hl : h1.length = sel.length)
  (hs : ∀ (i k : Nat) b1, sel[i]? = some k → h1[i]? = some b1 → ∃ b, h[k]? = some b ∧ Blk.view (zaR (rho sel h.length) b1) b)
  (H1 : HR (fun i => φ (rho sel h.length i)) (hf h1) w) (H1' : HR φ1' (hf h1') w') (F : FrC (fun i => φ (rho sel h.length i)) h1 w φ1' h1' w') (hgo : zee h1 h1') :
  ∃ φ', (fun i => φ' (rho sel h.length i)) = φ1' ∧ HR φ' (hf (zdK h sel h1' (rho sel h.length))) w' ∧ FrC φ h w φ' (zdK h sel h1' (rho sel h.length)) w' := by
 have hlen : sel.length ≤ h1'.length := hl ▸ F.len
 have sel_of : ∀ {i : Nat} {b1 : Blk}, h1[i]? = some b1 → ∃ k, sel[i]? = some k := fun {i b1} hi => by
  have := zJ hi
  exact ⟨sel[i]'(by omega), by simp [show i < sel.length by omega]⟩
 have h1_of : ∀ {i k : Nat}, sel[i]? = some k → ∃ b1, h1[i]? = some b1 := fun {i k} hi => by
  have := zJ hi
  exact ⟨h1[i]'(by omega), by simp [show i < h1.length by omega]⟩
 have h1'_of : ∀ {i : Nat} {b1 : Blk}, h1[i]? = some b1 → ∃ b1', h1'[i]? = some b1' ∧ b1'.rw = b1.rw := fun {i b1} hi => by
  have h2 := zJ hi
  have h3 := F.len
  refine ⟨h1'[i]'(by omega), by simp [show i < h1'.length by omega], F.flags i b1 _ hi (by simp [show i < h1'.length by omega])⟩
 let φ' : Phi := fun k => if k < h.length then φ k else φ1' (k - h.length + sel.length)
 have hφlt : ∀ {k : Nat}, k < h.length → φ' k = φ k := fun {k} hk => by simp [φ', hk]
 have hφge : ∀ {k : Nat}, h.length ≤ k → φ' k = φ1' (k - h.length + sel.length) := fun {k} hk => by simp [φ', Nat.not_lt.2 hk]
 have hsel_lt : ∀ {i k : Nat}, sel[i]? = some k → k < h.length := fun {i k} hi => by
  obtain ⟨b1, hb1⟩ := h1_of hi
  obtain ⟨b, hb, _⟩ := hs i k b1 hi hb1
  exact zJ hb
 have hρ : (fun i => φ' (rho sel h.length i)) = φ1' := by
  funext i
  rcases Nat.lt_or_ge i sel.length with hi | hi
  ·have hk : sel[i]? = some sel[i] := by simp [hi]
   obtain ⟨b1, hb1⟩ := h1_of hk
   obtain ⟨b, hb, hsn⟩ := hs i _ b1 hk hb1
   rcases zht hsn with hsn | ⟨hbg1, hbg⟩
   ·obtain ⟨rb, ro, e, _⟩ := H1.has i b1 (zav.2 ⟨hb1, (zdR hsn).1⟩)
    have e2 := F.le i _ e
    simp only [zc1 hk] at e ⊢
    rw [hφlt (hsel_lt hk), e, e2]
   ·simp only [zc1 hk]
    rw [hφlt (hsel_lt hk), H.nil _ (zda (hbg ▸ hb)), H1'.nil _ (zda (hgo i (zb8.1 hbg1 ▸ hb1)))]
  ·simp only [zgB hi]
   rw [hφge (by omega)]
   congr 1; omega
 have hρi : ∀ i, φ' (rho sel h.length i) = φ1' i := fun i => congrFun hρ i
 have hle : Le φ φ' := by
  intro k x e
  rcases Nat.lt_or_ge k h.length with hk | hk
  ·rw [hφlt hk]; exact e
  ·rw [H.nil k (zcT (List.getElem?_eq_none hk))] at e; cases e
 have hnew : ∀ {k rb ro : Nat}, h.length ≤ k → φ' k = some (rb, ro) → w.heap.size ≤ rb := fun {k rb ro} hk e => by
  rw [hφge hk] at e
  rcases F.new _ _ _ e with h' | h'
  ·rw [zgB (by omega), H.nil _ (zcT (List.getElem?_eq_none (by omega)))] at h'; cases h'
  ·exact h'
 have hbk_rw : ∀ {k : Nat} {blk : Blk}, k < h.length → (zdK h sel h1' (rho sel h.length))[k]? = some blk → ∃ b, h[k]? = some b ∧ blk.rw = b.rw := fun {k blk} hk e => by
  rw [zbV hk] at e
  cases e
  refine ⟨h[k], by simp [hk], ?_⟩
  split
  ·rename_i b' hov
   obtain ⟨i, e1, e2, e3⟩ := zdn hov
   obtain ⟨b1, hb1⟩ := h1_of e1
   obtain ⟨b1', e4, e5⟩ := h1'_of hb1
   rw [e2] at e4; cases e4
   obtain ⟨b, hb, hsn⟩ := hs i k b1 e1 hb1
   have hb' : h[k] = b := by
    have : h[k]? = some h[k] := by simp [hk]
    rw [hb] at this; exact (Option.some.inj this).symm
   rw [ze8, e3, hb']
   rcases zht hsn with hsn | ⟨_, hbg⟩
   ·exact (zhN hsn (by rw [ze8, ← e5, e3])).symm
   ·rw [hbg]; rfl
  ·rfl
 refine ⟨φ', hρ, ⟨?_, ?_, ?_⟩, ?_⟩
 ·-- has
  intro k blk hk
  rcases Nat.lt_or_ge k h.length with hkl | hkl
  ·obtain ⟨hk', hkg⟩ := zav.1 hk
   rw [zbV hkl] at hk'
   cases hk'
   rw [hφlt hkl]
   split
   ·rename_i b' hov
    rw [hov] at hkg
    obtain ⟨i, e1, e2, e3⟩ := zdn hov
    obtain ⟨rb, ro, e4, hB⟩ := H1'.has i b' (zav.2 ⟨e2, fun e => hkg (zb8.2 e)⟩)
    refine ⟨rb, ro, ?_, BR.ren.2 (by rw [hρ]; exact hB)⟩
    have := hρi i
    rw [zc1 e1, hφlt hkl] at this
    rw [this]; exact e4
   ·rename_i hov
    rw [hov] at hkg
    obtain ⟨rb, ro, e4, hB⟩ := H.has k h[k] (zav.2 ⟨by simp [hkl], hkg⟩)
    refine ⟨rb, ro, e4, (hB.congr (F.keep rb hB.lt ?_)).mono hle⟩
    intro i b1 ro' hi hrw he
    obtain ⟨kk, hkk⟩ := sel_of hi
    obtain ⟨b, hb, hsn⟩ := hs i kk b1 hkk hi
    rw [zc1 hkk] at he
    have hsn : Blk.seenW (zaR (rho sel h.length) b1) b := by
     rcases zht hsn with hsn | ⟨_, hbg⟩
     ·exact hsn
     ·rw [H.nil _ (zda (hbg ▸ hb))] at he; cases he
    by_cases hkk' : kk = k
    ·subst hkk'
     obtain ⟨b1', e5, e6⟩ := h1'_of hi
     have := over_none hov i b1' hkk e5
     rw [e6, hrw] at this; cases this
    ·exact H.apart kk k b rb ro' rb ro hkk' (zav.2 ⟨hb, (zdR hsn).2⟩) (zhN hsn (by rw [ze8]; exact hrw)) he e4 rfl
  ·obtain ⟨hk', hkg⟩ := zav.1 hk
   rw [zbv hkl] at hk'
   cases hb : h1'[sel.length + (k - h.length)]? with
   | none => rw [hb] at hk'; cases hk'
   | some b1 =>
    rw [hb] at hk'; cases hk'
    obtain ⟨rb, ro, e4, hB⟩ := H1'.has _ b1 (zav.2 ⟨hb, fun e => hkg (zb8.2 e)⟩)
    refine ⟨rb, ro, ?_, BR.ren.2 (by rw [hρ]; exact hB)⟩
    rw [hφge hkl, show k - h.length + sel.length = sel.length + (k - h.length) by omega]; exact e4
 ·-- nil
  intro k hk
  rcases Nat.lt_or_ge k h.length with hkl | hkl
  ·have hg : (zdK h sel h1' (rho sel h.length))[k]? = some .gone := by
    cases hq : (zdK h sel h1' (rho sel h.length))[k]? with
    | none => rw [zbV hkl] at hq; cases hq
    | some b =>
     by_cases hbg : b = .gone
     ·rw [hbg]
     ·rw [zav.2 ⟨hq, hbg⟩] at hk; cases hk
   rw [zbV hkl] at hg
   have hg := Option.some.inj hg
   split at hg
   ·rename_i b' hov
    obtain ⟨i, e1, e2, e3⟩ := zdn hov
    have := hρi i
    rw [zc1 e1] at this
    rw [this]
    exact H1'.nil _ (zda (by rw [e2, zb8.1 hg]))
   ·rw [hφlt hkl]
    exact H.nil _ (zda (by rw [← hg]; simp [hkl]))
  ·rw [hφge hkl]
   refine H1'.nil _ ?_
   cases hb : h1'[k - h.length + sel.length]? with
   | none => exact zcT hb
   | some b1 =>
    by_cases hbg : b1 = .gone
    ·exact zda (by rw [hb, hbg])
    ·rw [zav.2 ⟨by rw [zbv hkl, show sel.length + (k - h.length) = k - h.length + sel.length by omega, hb]; rfl, fun e => hbg (zb8.1 e)⟩] at hk; cases hk
 ·-- apart
  intro k k' blk rb ro rb' ro' hne hk hrw e1 e2
  obtain ⟨hk, hkg⟩ := zav.1 hk
  rcases Nat.lt_or_ge k h.length with hkl | hkl
  ·obtain ⟨b, hb, hbr⟩ := hbk_rw hkl hk
   rw [hφlt hkl] at e1
   have hb : hf h k = some b := zav.2 ⟨hb, fun e => by rw [H.nil k (zda (e ▸ hb))] at e1; cases e1⟩
   rcases Nat.lt_or_ge k' h.length with hkl' | hkl'
   ·rw [hφlt hkl'] at e2
    exact H.apart k k' b rb ro rb' ro' hne hb (hbr ▸ hrw) e1 e2
   ·have := hnew hkl' e2
    have := H.lt e1
    omega
  ·have h2 := hnew hkl e1
   rcases Nat.lt_or_ge k' h.length with hkl' | hkl'
   ·rw [hφlt hkl'] at e2
    have := H.lt e2
    omega
   ·rw [hφge hkl] at e1
    rw [hφge hkl'] at e2
    rw [zbv hkl] at hk
    cases hb : h1'[sel.length + (k - h.length)]? with
    | none => rw [hb] at hk; cases hk
    | some b1 =>
     rw [hb] at hk; cases hk
     rw [ze8] at hrw
     exact H1'.apart (k - h.length + sel.length) (k' - h.length + sel.length) b1 rb ro rb' ro' (by omega) (zav.2 ⟨by rw [show k - h.length + sel.length = sel.length + (k - h.length) by omega]; exact hb, fun e => hkg (zb8.2 e)⟩) hrw e1 e2
 ·-- frame
  refine ⟨F.size, ?_, F.os, F.tape, F.output, hle, ?_, ?_, ?_⟩
  ·intro rb hrb hx
   refine F.keep rb hrb ?_
   intro i b1 ro hi hrw he
   obtain ⟨kk, hkk⟩ := sel_of hi
   obtain ⟨b, hb, hsn⟩ := hs i kk b1 hkk hi
   rw [zc1 hkk] at he
   have hsn : Blk.seenW (zaR (rho sel h.length) b1) b := by
    rcases zht hsn with hsn | ⟨_, hbg⟩
    ·exact hsn
    ·rw [H.nil _ (zda (hbg ▸ hb))] at he; cases he
   exact hx kk b ro hb (zhN hsn (by rw [ze8]; exact hrw)) he
  ·intro k rb ro e
   rcases Nat.lt_or_ge k h.length with hkl | hkl
   ·rw [hφlt hkl] at e; exact .inl e
   ·exact .inr (hnew hkl e)
  ·unfold zdK; simp
  ·intro k b b' hk hk'
   have hkl := zJ hk
   obtain ⟨b2, hb2, hbr⟩ := hbk_rw hkl hk'
   rw [hk] at hb2; cases hb2
   exact hbr
section
variable {n : Nat} {φ0 : Phi} {h0 : List Blk} {w0 : World} {φ : Phi} {s : St} {a : Act} {w : World}
theorem Inv.weakR (I : Inv n φ0 h0 w0 φ s a w) (H0 : HR φ0 (hf h0) w0) {s0 : St} {sel : List Nat} (hw : WkR h0.length s s0 sel) : ∃ φ', Inv n φ0 h0 w0 φ' s0 a w := by
 obtain ⟨h1, h2, hnd, h3, h4⟩ := hw
 have hinj : ∀ (i j k : Nat), sel[i]? = some k → sel[j]? = some k → i = j := fun i j k e1 e2 => by
  have l1 := zJ e1
  have l2 := zJ e2
  rw [List.getElem?_eq_getElem l1] at e1
  rw [List.getElem?_eq_getElem l2] at e2
  exact (List.getElem_inj hnd).1 ((Option.some.inj e1).trans (Option.some.inj e2).symm)
 have hnil : ∀ {k : Nat}, s.h[k]? = none → φ k = none := fun {k} e => I.heap.nil k (zcT e)
 have hge : ∀ {i : Nat}, sel.length ≤ i → φ (rho sel s.h.length i) = none := fun {i} hi => by
  rw [zgB hi]; exact hnil (List.getElem?_eq_none (by omega))
 have hsl : ∀ {i : Nat} {x : Nat × Nat}, φ (rho sel s.h.length i) = some x → ∃ k, sel[i]? = some k ∧ φ k = some x := fun {i x} e => by
  rcases Nat.lt_or_ge i sel.length with hi | hi
  ·exact ⟨sel[i], by simp [hi], by rw [zc1 (k := sel[i]) (by simp [hi])] at e; exact e⟩
  ·rw [hge hi] at e; cases e
 have hB : h0.length ≤ s0.h.length := by
  rw [h1]
  rcases Nat.lt_or_ge sel.length h0.length with h | h
  ·have := h2 sel.length h; simp at this
  ·exact h
 refine ⟨fun i => φ (rho sel s.h.length i), I.size, fun t => ?_, I.defers, ⟨?_, ?_, ?_⟩, I.fr.size, I.fr.keep, I.fr.os, I.fr.tape, I.fr.output, ?_, ?_, hB, ?_⟩
 ·rcases h3 t with h | e
  ·rw [h]; exact VR.junk
  ·exact VR.ren.1 (e ▸ I.regs t)
 ·intro i blk hi
  obtain ⟨e1, hne⟩ := zav.1 hi
  have hil := zJ e1
  rw [h1] at hil
  have e2 : sel[i]? = some sel[i] := by simp [hil]
  rcases h4 i _ blk e2 e1 with e3 | ⟨e3, _⟩
  ·obtain ⟨b, o, e4, hb⟩ := I.heap.has _ _ (zav.2 ⟨e3, fun e => hne (zb8.1 e)⟩)
   exact ⟨b, o, by simp only [zc1 e2]; exact e4, BR.ren.1 hb⟩
  ·exact absurd e3 hne
 ·intro i hi
  rcases Nat.lt_or_ge i sel.length with hil | hil
  ·have e2 : sel[i]? = some sel[i] := by simp [hil]
   have e1 : s0.h[i]? = some (s0.h[i]'(by omega)) := by simp [show i < s0.h.length by omega]
   simp only [zc1 e2]
   have hg : s0.h[i]'(by omega) = .gone := by
    generalize hq : s0.h[i]'(by omega) = q at e1
    cases q with
    | gone => rfl
    | _ => rw [zav.2 ⟨e1, by simp⟩] at hi; cases hi
   rcases h4 i _ _ e2 e1 with e3 | ⟨_, e3⟩
   ·rw [hg] at e3; exact I.heap.nil _ (zda e3)
   ·exact hnil e3
  ·exact hge hil
 ·intro i i' blk rb ro rb' ro' hne hi hrw e1 e2
  obtain ⟨k, e3, e4⟩ := hsl e1
  obtain ⟨k', e5, e6⟩ := hsl e2
  obtain ⟨e7, hng⟩ := zav.1 hi
  rcases h4 i k blk e3 e7 with e8 | ⟨e8, _⟩
  ·exact I.heap.apart k k' _ rb ro rb' ro' (fun e => hne (hinj i i' k e3 (e ▸ e5))) (zav.2 ⟨e8, fun e => hng (zb8.1 e)⟩) (by rw [ze8]; exact hrw) e4 e6
  ·exact absurd e8 hng
 ·intro k x e
  have hk : k < h0.length := by
   rcases Nat.lt_or_ge k h0.length with hk | hk
   ·exact hk
   ·rw [H0.nil k (zcT (List.getElem?_eq_none hk))] at e; cases e
  show φ (rho sel s.h.length k) = some x
  rw [zc1 (h2 k hk)]
  exact I.fr.le k x e
 ·intro i b o e
  obtain ⟨k, e3, e4⟩ := hsl e
  rcases I.fr.new k b o e4 with h | h
  ·have hk : k < h0.length := by
    rcases Nat.lt_or_ge k h0.length with hk | hk
    ·exact hk
    ·rw [H0.nil k (zcT (List.getElem?_eq_none hk))] at h; cases h
   have := hinj i k k e3 (h2 k hk)
   subst this
   exact .inl h
  ·exact .inr h
 ·intro k b b' e1 e2
  have hk := zJ e1
  rcases h4 k k b' (h2 k hk) e2 with e3 | ⟨_, e3⟩
  ·have := I.fr.flags k b _ e1 e3
   rw [ze8] at this
   exact this
  ·have hlt : k < s.h.length := Nat.lt_of_lt_of_le hk I.fr.len
   rw [List.getElem?_eq_getElem hlt] at e3; cases e3
theorem Inv.weak (I : Inv n φ0 h0 w0 φ s a w) (H0 : HR φ0 (hf h0) w0) {s0 : St} (hw : Wk h0.length s s0) : ∃ φ', Inv n φ0 h0 w0 φ' s0 a w := by
 rcases hw with rfl | ⟨h1, h2, h3, h4⟩ | ⟨sel, hw⟩
 ·exact ⟨φ, I⟩
 ·have hle : s0.h.length ≤ s.h.length := by rw [h2]; simp; omega
  have hget : ∀ {k : Nat}, k < s0.h.length → s0.h[k]? = s.h[k]? := fun {k} hk => by
   have e : s0.h[k]? = (s.h.take s0.h.length)[k]? := by rw [← h2]
   rw [e, List.getElem?_take, if_pos hk]
  have hfe : ∀ {k : Nat}, k < s0.h.length → hf s0.h k = hf s.h k := fun {k} hk => by unfold hf; rw [hget hk]
  refine ⟨cut s0.h.length φ, I.size, fun t => ?_, I.defers, ⟨?_, ?_, ?_⟩, I.fr.size, I.fr.keep, I.fr.os, I.fr.tape, I.fr.output, ?_, ?_, h1, ?_⟩
  ·rcases h3 t with h | ⟨e, h⟩
   ·rw [h]; exact VR.junk
   ·exact VR.cut h (e ▸ I.regs t)
  ·intro k blk hk
   have hkl := zhc (by rw [hk]; simp : hf s0.h k ≠ none)
   rw [hfe hkl] at hk
   obtain ⟨b, o, e, hB⟩ := I.heap.has k blk hk
   refine ⟨b, o, by simp [cut, hkl, e], BR.cut (h4 blk ?_) hB⟩
   rw [← hfe hkl] at hk
   exact List.mem_of_getElem? (zeE hk)
  ·intro k hk
   by_cases hkl : k < s0.h.length
   ·rw [hfe hkl] at hk; simp [cut, hkl, I.heap.nil k hk]
   ·simp [cut, hkl]
  ·intro k k' blk rb ro rb' ro' hne hk hrw e1 e2
   unfold cut at e1 e2
   split at e1
   ·rename_i hkl
    split at e2
    ·rw [hfe hkl] at hk; exact I.heap.apart k k' blk rb ro rb' ro' hne hk hrw e1 e2
    ·cases e2
   ·cases e1
  ·intro k x e
   have : k < h0.length := by
    rcases Nat.lt_or_ge k h0.length with hk | hk
    ·exact hk
    ·rw [H0.nil k (zcT (List.getElem?_eq_none hk))] at e; cases e
   simp only [cut, show k < s0.h.length by omega, if_true]
   exact I.fr.le k x e
  ·intro k b o e
   unfold cut at e
   split at e
   ·exact I.fr.new k b o e
   ·cases e
  ·intro k b b' e1 e2
   have : k < s0.h.length := by
    rcases Nat.lt_or_ge k s0.h.length with h | h
    ·exact h
    ·rw [List.getElem?_eq_none h] at e2; cases e2
   rw [hget this] at e2
   exact I.fr.flags k b b' e1 e2
 ·exact I.weakR H0 hw
theorem Sim.weak {K : St → Prop} (H0 : HR φ0 (hf h0) w0) (h : Sim n φ0 h0 w0 (fun s => ∃ s0, Wk h0.length s s0 ∧ K s0) a w) : Sim n φ0 h0 w0 K a w := by
 obtain ⟨φ, s, ⟨s0, hw, hk⟩, I⟩ := h
 obtain ⟨φ', I'⟩ := I.weak H0 hw
 exact ⟨φ', s0, hk, I'⟩
end
end Go.Rh

namespace Go.Rh
theorem growBy_le (n : Nat) : ∀ (r c : Nat), 256 ≤ c → c ≤ 2 * n → Builtin.growBy n r c ≤ 2 * n
 | 0, c, _, h => h
 | r + 1, c, h0, h => by
  simp only [Builtin.growBy]
  split
  ·exact h
  ·exact growBy_le n r _ (by omega) (by omega)
theorem zio {n c : Nat} (h : c < n) : Builtin.nextslicecap n c ≤ 2 * n := by
 unfold Builtin.nextslicecap
 split
 ·omega
 ·split
  ·omega
  ·exact growBy_le n 4 c (by omega) (by omega)
section
variable {P : Program} {ops : Array Oper} {a : Act} {w : World} {n : Nat} {φ0 : Phi} {h0 : List Blk} {w0 : World} {φ : Phi} {s : St}
theorem HR.drew {h : Nat → Option Blk} (H : HR φ h w) : HR φ h w.drew :=
 ⟨fun k blk e => let ⟨b, o, e1, r⟩ := H.has k blk e; ⟨b, o, e1, r.congr rfl⟩, H.nil, H.apart⟩
theorem FrC.of_drew {h h' : List Blk} {φ' : Phi} {w' : World} (F : FrC φ h w.drew φ' h' w') : FrC φ h w φ' h' w' :=
 ⟨F.size, F.keep, F.os, F.tape, F.output, F.le, F.new, F.len, F.flags⟩
theorem zil {h : List Blk} (H : HR φ (hf h) w) (blk : Blk) (hg : blk ≠ .gone) (obj : Obj) (hb : BR (zdZ φ h.length (w.heap.size, 0)) (w.alloc obj) w.heap.size 0 blk) :
  HR (zdZ φ h.length (w.heap.size, 0)) (hf (h ++ [blk])) (w.alloc obj) ∧ FrC φ h w (zdZ φ h.length (w.heap.size, 0)) (h ++ [blk]) (w.alloc obj) := by
 obtain ⟨h1, h2⟩ := HR.push H (n := h.length) (zfc h) obj blk hb
 rw [hf_push _ _ hg]
 exact ⟨h1, FrC.of_fr (by rw [hf_push _ _ hg]; exact h2) (by simp) (zjn _ _)⟩
theorem set_list {h : List Blk} {k : Nat} {blk' : Blk} {w' : World} (hk : hf h k ≠ none) (hg : blk' ≠ .gone) (h1 : HR φ (zdZ (hf h) k blk') w') (h2 : Fr φ (hf h) w φ (zdZ (hf h) k blk') w') :
  HR φ (hf (h.set k blk')) w' ∧ FrC φ h w φ (h.set k blk') w' := by
 rw [zhC _ _ _ (zhc hk) hg]
 exact ⟨h1, FrC.of_fr (by rw [zhC _ _ _ (zhc hk) hg]; exact h2) (by simp) (zgJ (h2.set_rw hk))⟩
def OpOK (P : Program) (o : Oper) (φ : Phi) (h : List Blk) (a : Act) (w : World) (K : Value → List Blk → Prop) : Prop :=
 ∃ φ' v v' h' w', Runs P o a w v' w' ∧ K v h' ∧ VR φ' v v' ∧ HR φ' (hf h') w' ∧ FrC φ h w φ' h' w'
theorem zid {st xt ty el : TypeId} {i : TypeInfo} (hu : P.underlying st = some (.slice el)) (hxt : (∃ e2, P.underlying xt = some (.slice e2)) ∨ P.underlying xt = some .string) (hi : P.info? el = some i) {base : Option Addr} {sl cap m : Nat} {xv : Value} {new : Array Value} {w' : World}
  (hlo : (Builtin.lenOf xv).run P w = .ok m w) (hrn : (Builtin.firstCells i.size m xv).run P w = .ok new w) (hroom : sl + m ≤ cap)
  (hst : (match base with | some ad => storeCells (ad.add (sl * i.size)) new.toList | none => pure () : Sem Unit).run P w = .ok () w') :
  (Builtin.append_ #[st, xt] ty #[.slice base sl cap, xv]).run P w = .ok (.slice base (sl + m) cap) w' := by
 unfold Builtin.append_
 rcases hxt with ⟨e2, hd⟩ | hd
 all_goals
  cases base with
  | none =>
   have : w = w' := by simpa using hst
   subst this
   simp [run_underlying hu, zb6 hi, run_underlying hd, hlo, hroom, hrn]
  | some ad => simp [run_underlying hu, zb6 hi, run_underlying hd, hlo, hroom, hrn, hst]
theorem zie {st xt ty el : TypeId} {i : TypeInfo} {zv : Value} (hu : P.underlying st = some (.slice el)) (hxt : (∃ e2, P.underlying xt = some (.slice e2)) ∨ P.underlying xt = some .string) (hi : P.info? el = some i) (hzv : i.zero = some zv) (hb0 : i.bytes ≠ 0) {base : Option Addr} {sl cap m : Nat} {xv : Value} {old new : Array Value}
  (hlo : (Builtin.lenOf xv).run P w = .ok m w) (hrn : (Builtin.firstCells i.size m xv).run P w.drew = .ok new w.drew) (hro : (Builtin.firstCells i.size sl (.slice base sl cap)).run P w.drew = .ok old w.drew) (hroom : ¬ sl + m ≤ cap)
  (hns : ¬ (Builtin.nextslicecap (sl + m) cap * i.bytes > 281474976710656)) :
  (Builtin.append_ #[st, xt] ty #[.slice base sl cap, xv]).run P w = .ok (.slice (some ⟨w.heap.size, 0, none⟩) (sl + m) ((Question.appendCap (sl + m) cap el).cut (w.tape w.drawn (.appendCap (sl + m) cap el))))
   (w.drew.alloc (.cells (old ++ new ++ Builtin.zeroCells zv.cells ((Question.appendCap (sl + m) cap el).cut (w.tape w.drawn (.appendCap (sl + m) cap el)) - (sl + m))) el)) := by
 unfold Builtin.append_
 have hd0 : ({ w with drawn := w.drawn + 1 } : World) = w.drew := rfl
 rcases hxt with ⟨e2, hd⟩ | hd
 all_goals
  simp [run_underlying hu, zb6 hi, run_underlying hd, hlo, hroom, zcF hi, hb0, hns, Question.forced, hrn, hro, zaS hi hzv, newRow]
theorem app_ok {o : Oper} {x y : Operand} {x' y' : Opd} {st xt el : TypeId} {i : TypeInfo} {z : RL} {K : Value → List Blk → Prop} {h : List Blk} {e : Opd → Value} (he : ∀ x y, opd x = some y → VR φ (e y) (a.eval x)) (H : HR φ (hf h) w)
  (ho : o.op = .call { callee := .builtin .append, args := #[x, y], argTypes := #[st, xt] }) (hx : opd x = some x') (hy : opd y = some y') (hu : P.underlying st = some (.slice el))
  (hxt : (∃ e2, P.underlying xt = some (.slice e2)) ∨ P.underlying xt = some .string) (hi : P.info? el = some i) (hb0 : i.bytes ≠ 0) (hz : zcE P el = some z)
  (hK : appK z i.size i.bytes (e x') (e y') (fun v f => K v (f.on h)) (hf h) h.length) : OpOK P o φ h a w K := by
 have h1 := he _ _ hx
 have h2 := he _ _ hy
 unfold appK at hK
 split at hK <;> try cases hK
 rename_i base sl cap m ex hl
 rw [ex] at h1
 split at hK <;> try cases hK
 rename_i old new hold hnew
 rw [ex] at hold
 have hlo := run_lenOf (P := P) (w := w) hl h2
 have hbase : ∃ base', a.eval x = .slice base' sl cap ∧ ∀ l c, VR φ (.slice base l c) (.slice base' l c) := by
  cases base with
  | none => exact ⟨none, h1.sliceNil, fun l c => VR.of_sclf rfl⟩
  | some b => obtain ⟨b', e1, hA⟩ := h1.slice; exact ⟨some b', e1, fun l c => ⟨b', rfl, hA⟩⟩
 obtain ⟨base', hax, hVb⟩ := hbase
 have pre : ∀ v' w', (Builtin.append_ #[st, xt] o.type #[.slice base' sl cap, a.eval y]).run P w = .ok v' w' → Runs P o a w v' w' := by
  intro v' w' hr
  rw [← hax] at hr
  refine .inl ?_
  simp [execOp, ho, resolve, invoke, builtin, hr]
 split at hK
 ·-- zbs
  rename_i hroom
  obtain ⟨new', hrn, hEn⟩ := ze5 (P := P) H hnew h2
  have hr0 : ∀ w', (match base' with | some ad => storeCells (ad.add (sl * i.size)) new'.toList | none => pure () : Sem Unit).run P w = .ok () w' →
    Runs P o a w (.slice base' (sl + m) cap) w' := fun w' hst => pre _ _ (zid hu hxt hi hlo hrn hroom hst)
  split at hK
  ·rename_i k off
   obtain ⟨b', e1, hsp, b, bo, hφ, rfl⟩ := VR.slice h1
   rw [hax] at e1
   cases e1
   split at hK
   ·rename_i hm
    subst hm
    have hn0 : new'.toList = [] := by
     have : new = [] := by
      unfold first at hnew
      split at hnew
      ·split at hnew <;> try cases hnew
       split at hnew <;> cases hnew
       simp
      ·cases hnew; rfl
      ·cases hnew; simp
      ·cases hnew
     subst this
     have := hEn.1
     simpa using this.symm
    exact ⟨φ, _, _, h, w, hr0 w (by simp [hn0, storeCells]), hK, hVb _ _, H, FrC.refl _ _ _⟩
   ·split at hK <;> try cases hK
    rename_i c hk
    split at hK <;> try cases hK
    rename_i hb
    obtain ⟨w', hr, h3, h4⟩ := zf5 (P := P) (off := off + sl * i.size) H hk hφ hEn (by omega)
    obtain ⟨h5, h6⟩ := set_list (by rw [hk]; simp) (by simp) h3 h4
    refine ⟨φ, _, _, _, w', hr0 w' ?_, hK, hVb _ _, h5, h6⟩
    simp only [Addr.add_lit]
    rw [show bo + off + sl * i.size = bo + (off + sl * i.size) by omega]
    exact hr
  ·split at hK <;> try cases hK
   rename_i hm
   subst hm
   have := h1.sliceNil
   rw [hax] at this
   cases this
   exact ⟨φ, _, _, h, w, hr0 w rfl, hK, hVb _ _, H, FrC.refl _ _ _⟩
  ·cases hK
 ·-- a new row
  rename_i hroom
  obtain ⟨hbig, hK⟩ := hK
  obtain ⟨i', zv, hi', hzv, hcz, hp, hsz⟩ := zbI hz
  rw [hi] at hi'; cases hi'
  have hzs : zv.cells.size = i.size := by
   have := congrArg List.length hcz
   simp at this; omega
  have hcap : cap < sl + m := by omega
  have hns := zio hcap
  have hns2 : ¬ (Builtin.nextslicecap (sl + m) cap * i.bytes > 281474976710656) := by
   have := Nat.mul_le_mul_right i.bytes hns
   omega
  obtain ⟨new', hrn, hEn⟩ := ze5 (P := P) H.drew hnew h2
  rw [hax] at h1
  obtain ⟨old', hro, hEo⟩ := ze5 (P := P) H.drew hold h1
  have hrun := zie (ty := o.type) hu hxt hi hzv hb0 hlo hrn hro hroom hns2
  generalize hnc : (Question.appendCap (sl + m) cap el).cut (w.tape w.drawn (.appendCap (sl + m) cap el)) = nc at hrun
  have hnc' : sl + m ≤ nc := by rw [← hnc]; simp [Question.cut]
  have hrest : (Builtin.zeroCells zv.cells (nc - (sl + m))).toList = (List.replicate (nc - (sl + m)) (qI z)).flatten := by
   unfold Builtin.zeroCells
   rw [zero_row, hcz]
  have hE : Each (SR φ) (old ++ new ++ (List.replicate (nc - (sl + m)) (qI z)).flatten) (old' ++ new' ++ Builtin.zeroCells zv.cells (nc - (sl + m))).toList := by
   simp only [Array.toList_append, hrest]
   refine (hEo.append hEn).append (Each.refl_of fun v hv => SR.of_sclf (hp v ?_))
   simp only [List.mem_flatten, List.mem_replicate] at hv
   obtain ⟨l, ⟨_, rfl⟩, hv⟩ := hv
   exact hv
  obtain ⟨h5, h6⟩ := zil H.drew (.cells (old ++ new ++ (List.replicate (nc - (sl + m)) (qI z)).flatten) true) (by simp) (.cells (old' ++ new' ++ Builtin.zeroCells zv.cells (nc - (sl + m))) el)
   (BR.new (hE.mono fun _ _ => SR.mono (Le.upd (H.nil _ (zfc h)) _)) true)
  exact ⟨_, _, _, _, _, pre _ _ hrun, hK nc hnc', ⟨_, rfl, rfl, w.heap.size, 0, by simp [zdZ], by simp⟩, h5, h6.of_drew⟩
end
end Go.Rh

namespace Go.Rh
section
variable {P : Program} {ops : Array Oper} {a : Act} {w : World} {n : Nat} {φ0 : Phi} {h0 : List Blk} {w0 : World} {φ : Phi} {s : St}
theorem modify_push (h : Array Obj) (o : Obj) (f : Obj → Obj) : (h.push o).modify h.size f = h.push (f o) := by
 apply Array.ext
 ·simp
 ·intro i h1 h2
  simp only [Array.getElem_modify, Array.getElem_push]
  by_cases hi : i < h.size
  ·simp [hi]
   intro e; omega
  ·have : i = h.size := by simp at h1; omega
   subst this; simp
theorem csb_ok {o : Oper} {sT dT el : TypeId} {x : Operand} {x' : Opd} {K : Value → List Blk → Prop} {h : List Blk} {e : Opd → Value} (he : ∀ x y, opd x = some y → VR φ (e y) (a.eval x)) (H : HR φ (hf h) w)
  (ho : o.op = .convert sT dT x) (hx : opd x = some x') (hs : P.underlying sT = some .string) (hd : P.underlying dT = some (.slice el)) (hel : P.underlying el = some (.int .u8))
  (hK : csbK (e x') (fun v f => K v (f.on h)) h.length) : OpOK P o φ h a w K := by
 have h1 := he _ _ hx
 unfold csbK at hK
 split at hK <;> try cases hK
 rename_i st ex
 rw [ex] at h1
 have hax := h1.string
 generalize hnc : (Question.appendCap st.size 0 el).cut (w.tape w.drawn (.appendCap st.size 0 el)) = nc
 have hnc' : st.size ≤ nc := by rw [← hnc]; simp [Question.cut]
 let cs : Array Value := (st.data.map fun b => .int .u8 b.toNat) ++ Array.replicate (nc - st.size) (.int .u8 0)
 have hcs : cs.toList = (st.data.toList.map fun (b : UInt8) => Value.int .u8 b.toNat) ++ List.replicate (nc - st.size) (Value.int .u8 0) := by simp [cs]
 have hrun : (execOp a.eval o).run P w = .ok (.value (.slice (some ⟨w.heap.size, 0, none⟩) st.size nc)) (w.drew.alloc (.cells cs el (cs.size, cs.size + 1))) := by
  have hst : (Conv.stringToBytes el st).run P w = .ok (.slice (some ⟨w.heap.size, 0, none⟩) st.size nc) (w.drew.alloc (.cells cs el (cs.size, cs.size + 1))) := by
   unfold Conv.stringToBytes
   have hcs' : (st.data.map fun b => Value.int .u8 b.toNat) ++ Array.replicate (nc - st.size) (.int .u8 0) = cs := rfl
   have hshape : (w.drew.alloc (.cells cs el)).shape? w.heap.size = some (el, cs.size) := by
    have := heap_alloc_new w.drew (.cells cs el)
    have hsz : w.drew.heap.size = w.heap.size := rfl
    rw [hsz] at this
    unfold World.shape?
    rw [this]
   have hfr : (w.drew.alloc (.cells cs el)).freeze ⟨w.heap.size, cs.size, none⟩ 1 = w.drew.alloc (.cells cs el (cs.size, cs.size + 1)) := by
    unfold World.freeze
    rw [if_neg (by decide)]
    have hh : (w.drew.alloc (.cells cs el)).heap = w.heap.push (.cells cs el) := rfl
    simp only [hh]
    rw [modify_push]
    rfl
   simp only [Sem.run_bind, run_choose, Question.forced, Bool.false_eq_true, if_false, hnc, World.drew_eq, Result.andThen_ok, newRow, run_newObj, World.alloc_eq, Sem.run_pure]
   simp only [hcs', markStringish, Sem.run_bind, run_shape, World.size_drew, hshape, Result.andThen_ok, run_freeze, hfr]
  simp only [execOp, ho, hax, convert, Sem.run_bind, run_underlying hs, run_underlying hd, run_underlying hel, Result.andThen_ok, hst, Sem.run_pure]
 have hE : Each (SR φ) ((st.data.toList.map fun (b : UInt8) => Value.int .u8 b.toNat) ++ List.replicate (nc - st.size) (Value.int .u8 0)) cs.toList := by
  rw [hcs]
  refine Each.refl_of fun v hv => SR.of_sclf ?_
  simp only [List.mem_append, List.mem_map, List.mem_replicate] at hv
  rcases hv with ⟨b, _, rfl⟩ | ⟨_, rfl⟩ <;> rfl
 have hlen : cs.size = ((st.data.toList.map fun (b : UInt8) => Value.int .u8 b.toNat) ++ List.replicate (nc - st.size) (Value.int .u8 0)).length := by
  rw [← hcs]; simp
 obtain ⟨h5, h6⟩ := zil H.drew (.cells ((st.data.toList.map fun (b : UInt8) => Value.int .u8 b.toNat) ++ List.replicate (nc - st.size) (Value.int .u8 0)) true) (by simp) (.cells cs el (cs.size, cs.size + 1)) (by
  refine ⟨cs, el, (cs.size, cs.size + 1), heap_alloc_new w.drew _, by rw [hlen]; simp, ?_, fun _ => ⟨rfl, hlen, fun i hi => by simp; omega⟩⟩
  rw [List.drop_zero, List.take_of_length_le (by rw [← hlen]; simp)]
  exact hE.mono fun _ _ => SR.mono (Le.upd (H.nil _ (zfc h)) _))
 exact ⟨_, _, _, _, _, .inl hrun, hK nc hnc', ⟨_, rfl, rfl, w.heap.size, 0, by simp [zdZ], by simp⟩, h5, h6.of_drew⟩
theorem comm_at {i : Nat} {o : Oper} {cases' : Array CommCase} {bl : Bool} {sh : CommShape} (ho : ops[i]? = some o) (hw : Region.wanted o (yielded ops a.tmps) = true) (hr : (execOp a.eval o).run P w = .ok (.comm cases' bl sh) w)
  (rest : List Nat) (b : Frame) (k : List Item) (cs : List Frame) :
  ∃ es, stepG P true (Conc.G (b.at a (.inRegion ops (i :: rest) :: k)) cs) w = .comm (Conc.G (b.at a (.inRegion ops (i :: rest) :: k)) cs) cases' bl sh w es := by
 have hg := stepG_op (P := P) (b := b) (k := k) (cs := cs) (w := w) (rest := rest) ho hw
 unfold Conc.G
 rw [hg]
 simp [stepG.apply, hr, GStep.after]
def ChOK (P : Program) (ops : Array Oper) (i : Nat) (o : Oper) (φ : Phi) (h : List Blk) (a : Act) (w : World) (K : Value → List Blk → Prop) : Prop :=
 ∃ v v' h' w', OpTo P ops i (fun a1 w1 => a1 = a.put o.dst v' ∧ w1 = w') a w ∧ K v h' ∧ VR φ v v' ∧ HR φ (hf h') w' ∧ FrC φ h w φ h' w'
theorem ze2 {h : List Blk} (H : HR φ (hf h) w) {r cap : Nat} {bf bf' : List Value} {rb : Nat} (hr : hf h r = some (.chan cap bf)) (hφ : φ r = some (rb, 0)) {buf' : Array Value} (hE : Each (GR φ) bf' buf'.toList) (s q : Nat) :
  HR φ (hf (h.set r (.chan cap bf'))) (w.setChan rb cap buf' false s q false) ∧ FrC φ h w φ (h.set r (.chan cap bf')) (w.setChan rb cap buf' false s q false) := by
 have hlt := H.lt hφ
 obtain ⟨h3, h4⟩ := HR.set (w' := w.setChan rb cap buf' false s q false) (blk' := .chan cap bf') H hr rfl hφ ⟨rfl, buf', s, q, by simp [World.setChan, hlt], hE⟩ rfl (by simp [World.setChan]) (fun j hj => by simp [World.setChan, Array.getElem?_setIfInBounds_ne (Ne.symm hj)]) rfl rfl rfl
 exact set_list (by rw [hr]; simp) (by simp) h3 h4
theorem snd_ok {i : Nat} {o : Oper} {c x : Operand} {c' x' : Opd} {K : Value → List Blk → Prop} {h : List Blk} {e : Opd → Value} (hoi : ops[i]? = some o) (hw : Region.wanted o (yielded ops a.tmps) = true) (he : ∀ x y, opd x = some y → VR φ (e y) (a.eval x)) (H : HR φ (hf h) w)
  (ho : o.op = .send c x) (hc : opd c = some c') (hx : opd x = some x') (hK : sndK (e c') (e x') (fun v f => K v (f.on h)) (hf h)) : ChOK P ops i o φ h a w K := by
 have h1 := he _ _ hc
 have h2 := he _ _ hx
 unfold sndK at hK
 split at hK <;> try cases hK
 rename_i r ec
 rw [ec] at h1
 split at hK
 case h_2 => cases hK
 rename_i cap bf hr
 obtain ⟨hroom, ht, hK⟩ := hK
 obtain ⟨rb, hrb, hφ⟩ := h1.chan
 obtain ⟨b', o', hφ', _, bf', s, q, hw', hE⟩ := H.has r _ hr
 rw [hφ] at hφ'; cases hφ'
 have hE' : Each (GR φ) (bf ++ [e x']) (bf'.push (a.eval x)).toList := by
  rw [Array.toList_push]; exact hE.append (Each.cons (GR.of_VR ht h2) (Each.nil _))
 obtain ⟨h3, h4⟩ := ze2 H hr hφ hE' (s + 1) q
 refine ⟨undef, undef, _, w.setChan rb cap (bf'.push (a.eval x)) false (s + 1) q false, ?_, hK, VR.undef, h3, h4⟩
 intro rest b k cs
 obtain ⟨es, hcm⟩ := comm_at (P := P) (cases' := #[{ chan := .chan (some rb), send := some (a.eval x), zero := .tuple #[] }]) (bl := true) (sh := .send) hoi hw (by simp [execOp, ho, hrb]) rest b k cs
 have hst := Conc.step_lone_send_room (c := rb) (v := a.eval x) (z' := .tuple #[]) hcm hw' (by have := hE.1; simp at this; omega)
 refine ⟨_, _, ⟨rfl, rfl⟩, .one ?_⟩
 have hfin : (b.at a (.inRegion ops (i :: rest) :: k)).finish undef = b.at (a.put o.dst undef) (.inRegion ops rest :: k) := by rw [Frame.finish_at, hoi]; rfl
 rw [hfin] at hst
 exact hst
theorem each_head {R} {v : Value} {l : List Value} {l' : Array Value} (h : Each R (v :: l) l'.toList) : ∃ v', l'.getD 0 undef = v' ∧ R v v' ∧ 0 < l'.size ∧ Each R l (l'.extract 1 l'.size).toList := by
 obtain ⟨v', h1, h2⟩ := h.get (i := 0) rfl
 have h1' : l'[0]? = some v' := by simpa using h1
 obtain ⟨hlt, _⟩ := Array.getElem?_eq_some_iff.1 h1'
 refine ⟨v', by simp [Array.getD_eq_getD_getElem?, h1'], h2, hlt, ?_⟩
 have := h.drop 1
 simp only [List.drop_succ_cons, List.drop_zero] at this
 rw [Array.toList_extract, List.extract_eq_take_drop, List.take_of_length_le (by simp)]
 exact this
theorem rcv_ok {i : Nat} {o : Oper} {t el : TypeId} {dir : ChanDir} {z : RL} {c : Operand} {c' : Opd} {K : Value → List Blk → Prop} {h : List Blk} {e : Opd → Value} (hoi : ops[i]? = some o) (hw : Region.wanted o (yielded ops a.tmps) = true) (he : ∀ x y, opd x = some y → VR φ (e y) (a.eval x)) (H : HR φ (hf h) w)
  (ho : o.op = .recv t c false) (hc : opd c = some c') (hu : P.underlying t = some (.chan dir el)) (hz : zcE P el = some z) (hK : rcvK (e c') (fun v f => K v (f.on h)) (hf h)) : ChOK P ops i o φ h a w K := by
 have h1 := he _ _ hc
 unfold rcvK at hK
 split at hK <;> try cases hK
 rename_i r ec
 rw [ec] at h1
 split at hK <;> try cases hK
 rename_i cap v bf hr
 obtain ⟨rb, hrb, hφ⟩ := h1.chan
 obtain ⟨b', o', hφ', _, bf', s, q, hw', hE⟩ := H.has r _ hr
 rw [hφ] at hφ'; cases hφ'
 obtain ⟨v', hv', hG, hpos, hE'⟩ := each_head hE
 obtain ⟨h3, h4⟩ := ze2 H hr hφ hE' s (q + 1)
 obtain ⟨it, zv, hi, hzv, _⟩ := zbI hz
 refine ⟨v, v', _, w.setChan rb cap (bf'.extract 1 bf'.size) false s (q + 1) false, ?_, hK, VR.of_GR hG, h3, h4⟩
 intro rest b k cs
 obtain ⟨es, hcm⟩ := comm_at (P := P) (cases' := #[{ chan := .chan (some rb), send := none, zero := zv }]) (bl := true) (sh := .recv false) hoi hw (by simp [execOp, ho, hrb, run_underlying hu, zaS hi hzv]) rest b k cs
 have hst := Conc.step_lone_recv_buf (c := rb) (z := zv) false hcm hw' hpos
 refine ⟨_, _, ⟨rfl, rfl⟩, .one ?_⟩
 have hfin : ∀ v, (b.at a (.inRegion ops (i :: rest) :: k)).finish v = b.at (a.put o.dst v) (.inRegion ops rest :: k) := by intro v; rw [Frame.finish_at, hoi]; rfl
 rw [hfin] at hst
 simp only [Conc.got, Bool.false_eq_true, if_false, hv'] at hst
 exact hst
theorem sel_ok {i : Nat} {o : Oper} {sc : SelectCase} {z : RL} {m : Option Nat} {c' : Opd} {K : Value → List Blk → Prop} {h : List Blk} {e : Opd → Value} (hoi : ops[i]? = some o) (hw : Region.wanted o (yielded ops a.tmps) = true) (he : ∀ x y, opd x = some y → VR φ (e y) (a.eval x)) (H : HR φ (hf h) w)
  (ho : o.op = .select #[sc] false) (hsn : sc.send = none) (hc : opd sc.chan = some c') (hz : zcE P sc.elem = some z) (hm : ldn P sc.elem = some m) (hg : zhW P sc.elem = m.isSome) (hK : selK z m.isSome (e c') (fun v f => K v (f.on h)) (hf h)) : ChOK P ops i o φ h a w K := by
 have h1 := he _ _ hc
 unfold selK at hK
 split at hK <;> try cases hK
 rename_i r ec
 rw [ec] at h1
 obtain ⟨rb, hrb, hφ⟩ := h1.chan
 obtain ⟨it, zv0, hi, hzv0, _⟩ := zbI hz
 have hfin : ∀ (rest : List Nat) (b : Frame) (k : List Item) v, (b.at a (.inRegion ops (i :: rest) :: k)).finish v = b.at (a.put o.dst v) (.inRegion ops rest :: k) := by intro rest b k v; rw [Frame.finish_at, hoi]; rfl
 have hex : (execOp a.eval o).run P w = .ok (.comm #[{ chan := .chan (some rb), send := none, zero := zv0 }] false .select) w := by
  simp [execOp, ho, hrb, hsn, zaS hi hzv0]
 split at hK
 ·rename_i cap v bf hr
  obtain ⟨b', o', hφ', _, bf', s, q, hw', hE⟩ := H.has r _ hr
  rw [hφ] at hφ'; cases hφ'
  obtain ⟨v', hv', hG, hpos, hE'⟩ := each_head hE
  obtain ⟨h3, h4⟩ := ze2 H hr hφ hE' s (q + 1)
  refine ⟨_, .tuple #[goInt 0, .bool true, v'], _, w.setChan rb cap (bf'.extract 1 bf'.size) false s (q + 1) false, ?_, hK, ⟨_, rfl, Each.cons ⟨rfl, rfl⟩ (Each.cons ⟨rfl, rfl⟩ (Each.cons hG (Each.nil _)))⟩, h3, h4⟩
  intro rest b k cs
  obtain ⟨es, hcm⟩ := comm_at (P := P) hoi hw hex rest b k cs
  have hst := Conc.step_lone_select_recv_buf (c := rb) (z := zv0) hcm hw' hpos
  rw [hfin, hv'] at hst
  exact ⟨_, _, ⟨rfl, rfl⟩, .one hst⟩
 ·rename_i cap hr
  split at hK <;> try cases hK
  rename_i zv hzv
  obtain ⟨b', o', hφ', _, bf', s, q, hw', hE⟩ := H.has r _ hr
  rw [hφ] at hφ'; cases hφ'
  have hb0 : bf' = #[] := by
   have := hE.1
   apply Array.ext'
   simpa using this.symm
  subst hb0
  obtain ⟨zr, hzr, hzG⟩ := zi2 (P := P) (w := w) (φ := φ) hz hm hg hzv
  have hzz : zr = zv0 := by rw [zaS hi hzv0] at hzr; cases hzr; rfl
  subst hzz
  refine ⟨_, .tuple #[goInt (-1), .bool false, zr], h, w, ?_, hK, ⟨_, rfl, Each.cons ⟨rfl, rfl⟩ (Each.cons ⟨rfl, rfl⟩ (Each.cons hzG (Each.nil _)))⟩, H, FrC.refl _ _ _⟩
  intro rest b k cs
  obtain ⟨es, hcm⟩ := comm_at (P := P) hoi hw hex rest b k cs
  have hst := Conc.step_lone_select_default (c := rb) (z := zr) hcm hw'
  rw [hfin] at hst
  exact ⟨_, _, ⟨rfl, rfl⟩, .one hst⟩
 ·cases hK
theorem born_at {ms : Array MapEntry} (h : ms.toList.map (·.born) = List.range ms.size) {i : Nat} {e : MapEntry} (he : ms[i]? = some e) : e.born = i := by
 have hi : i < ms.size := by
  rcases Nat.lt_or_ge i ms.size with q | q
  ·exact q
  ·rw [Array.getElem?_eq_none q] at he; cases he
 have h1 : (ms.toList.map (·.born))[i]? = some e.born := by simp [he]
 rw [h] at h1
 simp [hi] at h1
 exact h1.symm
theorem born_lt {ms : Array MapEntry} (h : ms.toList.map (·.born) = List.range ms.size) {e : MapEntry} (he : e ∈ ms.toList) : ∃ i : Nat, ms[i]? = some e ∧ e.born = i ∧ i < ms.size := by
 obtain ⟨i, hi⟩ := List.mem_iff_getElem?.1 he
 have hi' : ms[i]? = some e := by simpa using hi
 refine ⟨i, hi', born_at h hi', ?_⟩
 have := zJ hi
 simpa using this
theorem rng_ok {o : Oper} {t kt el : TypeId} {x : Operand} {x' : Opd} {K : Value → List Blk → Prop} {h : List Blk} {e : Opd → Value} (he : ∀ x y, opd x = some y → VR φ (e y) (a.eval x)) (H : HR φ (hf h) w)
  (ho : o.op = .range t x) (hx : opd x = some x') (hu : P.underlying t = some (.map kt el)) (hK : rngK (e x') (fun v f => K v (f.on h)) (hf h) h.length) : OpOK P o φ h a w K := by
 have h1 := he _ _ hx
 unfold rngK at hK
 split at hK <;> first | exact hK.elim | skip
 rename_i r ex
 rw [ex] at h1
 split at hK <;> first | exact hK.elim | skip
 rename_i es hr
 obtain ⟨bm, hb, hφ⟩ := h1.map
 obtain ⟨b', o', hφ', _, ms, cl, hw, hE1, hE2, hE3, hE4⟩ := H.has r _ hr
 rw [hφ] at hφ'; cases hφ'
 have hrl : r < h.length := by
  rcases Nat.lt_or_ge r h.length with q | q
  ·exact q
  ·rw [zcT (List.getElem?_eq_none q)] at hr; cases hr
 have hlen : es.length = ms.size := by have := hE1.1; simp at this; exact this
 obtain ⟨h3, h4⟩ := zil H (.iter r es.length []) (by simp) (.mapIter (some bm) cl #[] cl) ⟨rfl, bm, by simp [zdZ, show r ≠ h.length by omega, hφ], by rw [heap_alloc_new, hlen, hE4]⟩
 refine ⟨_, _, .pointer (some ⟨w.heap.size, 0, none⟩), _, _, .inl ?_, hK, ?_, h3, h4⟩
 ·simp only [execOp, ho, hb, Sem.run_bind, run_range_map w t kt el bm ms cl hu hw, Result.andThen_ok, Sem.run_pure]
 ·exact ⟨_, rfl, rfl, w.heap.size, 0, by simp [zdZ], rfl⟩
theorem iter_at {h : List Blk} {v v' : Value} {k m n : Nat} {seen : List Nat} (H : HR φ (hf h) w) (hv : VR φ v v') (ex : v = .pointer (some ⟨k, 0, none⟩)) (hk : hf h k = some (.iter m n seen)) {es : List (Value × Value)} (hm : hf h m = some (.map es)) (hn : es.length = n) :
  ∃ r bm ms, v' = .pointer (some ⟨r, 0, none⟩) ∧ φ k = some (r, 0) ∧ φ m = some (bm, 0) ∧ w.heap[r]? = some (.mapIter (some bm) n seen.toArray n) ∧ w.heap[bm]? = some (.map ms n) ∧ ms.size = n ∧
   Each (GR φ) (es.map (·.1)) (ms.toList.map (·.key)) ∧ Each (GR φ) (es.map (·.2)) (ms.toList.map (·.val)) ∧ ms.toList.map (·.born) = List.range ms.size := by
 subst ex
 obtain ⟨v'', rfl, _, r, ro, hφ, rfl⟩ := hv.pointer
 obtain ⟨b', o', hφ', h0, bm, h1, h2⟩ := H.has k _ hk
 rw [hφ] at hφ'; cases hφ'
 obtain ⟨b2, o2, hφ2, h02, ms, cl, hw, hE1, hE2, hE3, hE4⟩ := H.has m _ hm
 rw [h1] at hφ2; cases hφ2
 have hlen : ms.size = n := by have := hE1.1; simp at this; omega
 subst h0
 exact ⟨r, bm, ms, rfl, hφ, h1, h2, by rw [hw, hE4, hlen], hlen, hE1, hE2, hE3⟩
theorem nxt_ok {o : Oper} {x : Operand} {x' : Opd} {K : Value → List Blk → Prop} {h : List Blk} {e : Opd → Value} (he : ∀ x y, opd x = some y → VR φ (e y) (a.eval x)) (H : HR φ (hf h) w)
  (ho : o.op = .next x false) (hx : opd x = some x') (hK : nxtK (e x') (fun v f => K v (f.on h)) (hf h)) : OpOK P o φ h a w K := by
 have h1 := he _ _ hx
 unfold nxtK at hK
 split at hK <;> first | exact hK.elim | skip
 rename_i k ex
 split at hK <;> first | exact hK.elim | skip
 rename_i m n seen hk
 split at hK <;> first | exact hK.elim | skip
 rename_i es hm
 obtain ⟨hn, hK1, hK2⟩ := hK
 obtain ⟨r, bm, ms, hv', hφr, hφm, hir, hmw, hsz, hE1, hE2, hE3⟩ := iter_at H h1 ex hk hm hn
 have hold : ∀ x ∈ ms.toList, x.born < n := fun x hx => by obtain ⟨i, _, h2, h3⟩ := born_lt hE3 hx; omega
 rcases run_next_at (P := P) w o.type r bm n n seen.toArray ms n hir hmw hold (Nat.le_refl _) with ⟨h2, hrun⟩ | ⟨e0, he0, w1, hw1, hrun⟩
 ·refine ⟨φ, _, .tuple #[.bool false], h, w, .inl ?_, hK1 fun i hi => ?_, VR.of_vpf rfl, H, FrC.refl _ _ _⟩
  ·simp only [execOp, ho, hv', Sem.run_bind, hrun, Result.andThen_ok, Sem.run_pure]
  ·refine Decidable.byContradiction fun hni => ?_
   obtain ⟨me, hme⟩ : ∃ me, ms[i]? = some me := ⟨ms[i]'(by omega), by simp [show i < ms.size by omega]⟩
   have hb := born_at hE3 hme
   have hmem : me ∈ leftOf ms seen.toArray := by
    unfold leftOf
    rw [Array.mem_filter]
    refine ⟨Array.mem_of_getElem? hme, ?_⟩
    rw [hb]; simpa using hni
   have := Array.size_pos_of_mem hmem
   omega
 ·have he1 : e0 ∈ ms ∧ e0.born ∉ seen := by
   unfold leftOf at he0
   simp only [Array.toList_filter, List.mem_filter] at he0
   exact ⟨by simpa using he0.1, by simpa using he0.2⟩
  obtain ⟨i, hi, hb, hlt⟩ := born_lt hE3 (by simpa using he1.1)
  have hes : es[i]? = some (es[i]'(by omega)) := by simp [show i < es.length by omega]
  have hik : ms.toList[i]? = some e0 := by simpa using hi
  have g1 : GR φ (es[i]'(by omega)).1 e0.key := hE1.2 i _ _ (by simp [show i < es.length by omega]) (by simp [hi])
  have g2 : GR φ (es[i]'(by omega)).2 e0.val := hE2.2 i _ _ (by simp [show i < es.length by omega]) (by simp [hi])
  have H1 : HR φ (hf h) w1 := by rcases hw1 with rfl | rfl; exact H; exact H.drew
  have hir1 : w1.heap[r]? = some (.mapIter (some bm) n seen.toArray n) := by rcases hw1 with rfl | rfl <;> exact hir
  obtain ⟨h3, h4⟩ := HR.set (w' := Go.ChangeMaps.setBlock w1 r (.mapIter (some bm) n (seen.toArray.push e0.born) n)) (blk' := .iter m n (seen ++ [i])) H1 hk rfl hφr
   ⟨rfl, bm, hφm, by
    have hrl : r < w1.heap.size := by
     rcases Nat.lt_or_ge r w1.heap.size with q | q
     ·exact q
     ·rw [Array.getElem?_eq_none q] at hir1; cases hir1
    simp [Go.ChangeMaps.setBlock, hrl, hb]⟩ rfl (by simp [Go.ChangeMaps.setBlock]) (fun j hj => by simp [Go.ChangeMaps.setBlock, Array.getElem?_setIfInBounds_ne (Ne.symm hj)]) rfl rfl rfl
  obtain ⟨h5, h6⟩ := set_list (by rw [hk]; simp) (by simp) h3 h4
  refine ⟨φ, _, .tuple #[.bool true, e0.key, e0.val], _, _, .inl ?_, hK2 i _ (by rw [← hb]; exact he1.2) hes, ⟨_, rfl, Each.cons ⟨rfl, rfl⟩ (Each.cons g1 (Each.cons g2 (Each.nil _)))⟩, h5, ?_⟩
  ·simp only [execOp, ho, hv', Sem.run_bind, hrun, Result.andThen_ok, Sem.run_pure]
  ·rcases hw1 with rfl | rfl
   ·exact h6
   ·exact FrC.of_drew h6
theorem ent_ok {o : Oper} {x : Operand} {x' : Opd} {K : Value → List Blk → Prop} {h : List Blk} {e : Opd → Value} (he : ∀ x y, opd x = some y → VR φ (e y) (a.eval x)) (H : HR φ (hf h) w)
  (ho : o.op = .entry x) (hx : opd x = some x') (hK : entK (e x') (fun v f => K v (f.on h)) (hf h)) : OpOK P o φ h a w K := by
 have h1 := he _ _ hx
 unfold entK at hK
 split at hK <;> first | exact hK.elim | skip
 rename_i k ex
 split at hK <;> first | exact hK.elim | skip
 rename_i m n seen hk
 split at hK <;> first | exact hK.elim | skip
 rename_i es i hm hlast
 split at hK <;> first | exact hK.elim | skip
 rename_i p hp
 obtain ⟨hn, hK⟩ := hK
 obtain ⟨r, bm, ms, hv', hφr, hφm, hir, hmw, hsz, hE1, hE2, hE3⟩ := iter_at H h1 ex hk hm hn
 have hil := zJ hp
 obtain ⟨me, hme⟩ : ∃ me, ms[i]? = some me := ⟨ms[i]'(by omega), by simp [show i < ms.size by omega]⟩
 have hb := born_at hE3 hme
 have g1 : GR φ p.1 me.key := hE1.2 i _ _ (by simp [hp]) (by simp [hme])
 have g2 : GR φ p.2 me.val := hE2.2 i _ _ (by simp [hp]) (by simp [hme])
 have hse : seen.toArray = seen.dropLast.toArray.push me.born := by
  rw [hb]
  have : seen = seen.dropLast ++ [i] := by
   have hne : seen ≠ [] := by rintro rfl; cases hlast
   have h3 := List.dropLast_concat_getLast hne
   have h4 : seen.getLast hne = i := by rw [List.getLast?_eq_some_getLast hne] at hlast; exact Option.some.inj hlast
   rw [h4] at h3; exact h3.symm
  conv => lhs; rw [this]
  simp
 rw [hse] at hir
 have hrun := run_entry_at (P := P) w r bm n seen.dropLast.toArray ms n me hir hmw (by simpa using Array.mem_of_getElem? hme) (by rw [hE3]; exact List.nodup_range)
 refine ⟨φ, _, .tuple #[me.key, me.val], h, w, .inl ?_, hK, ⟨_, rfl, Each.cons g1 (Each.cons g2 (Each.nil _))⟩, H, FrC.refl _ _ _⟩
 simp only [execOp, ho, hv', Sem.run_bind, hrun, Result.andThen_ok, Sem.run_pure]
end
end Go.Rh

namespace Go.Rh
section
variable {P : Program} {ops : Array Oper} {a : Act} {w : World} {n : Nat} {φ0 : Phi} {h0 : List Blk} {w0 : World} {φ : Phi} {s : St} {C : qW}
theorem opds_spec (he : ∀ x y, opd x = some y → VR φ (evf s.f y) (a.eval x)) : ∀ {xs : List Operand} {ys : List Opd}, opds xs = some ys → ys.length = xs.length ∧ ∀ (i : Nat) v v', (ys.map (evf s.f))[i]? = some v → (xs.map a.eval)[i]? = some v' → VR φ v v'
 | [], ys, h => by simp [opds] at h; subst h; simp
 | x :: xs, ys, h => by
  simp only [opds] at h
  split at h <;> cases h
  rename_i y l hy hl
  obtain ⟨h1, h2⟩ := opds_spec he hl
  refine ⟨by simp [h1], fun i => ?_⟩
  cases i with
  | zero => intro v v' e1 e2; simp at e1 e2; subst e1; subst e2; exact he _ _ hy
  | succ i => intro v v' e1 e2; exact h2 i v v' (by simpa using e1) (by simpa using e2)
theorem call_ok (hC : ziM P C) {i : Nat} {o : Oper} {c : Call} {f : FuncId} {fn : Func} {l : List Opd} {K : Value → List Blk → Prop} (hoi : ops[i]? = some o) (hw : Region.wanted o (yielded ops a.tmps) = true) (he : ∀ x y, opd x = some y → VR φ (evf s.f y) (a.eval x)) (H : HR φ (hf s.h) w)
  (ho : o.op = .call c) (hcal : c.callee = .value (.func f)) (hfn : P.funcs[f]? = some fn) (hl : opds c.args.toList = some l) (hb : fn.body.isSome = true) (hname : fn.name ≠ "runtime.NumGoroutine")
  (hK : zcl C fn.name (l.map (evf s.f)) K s.h) {K' : Act → World → Prop} (hK' : ∀ φ' v v' h' w', K v h' → VR φ' v v' → HR φ' (hf h') w' → FrC φ s.h w φ' h' w' → K' (a.put o.dst v') w') : OpTo P ops i K' a w := by
 obtain ⟨sel, h1, a1, R, hCg, hlen, ha1, hs, hd, hR⟩ := hK
 have hAC := hC fn.name a1 h1 R hCg f fn hfn rfl
 obtain ⟨hll, hVV⟩ := opds_spec he hl
 have H1 := callee_heap H hlen hs hd
 have hrun : (execOp a.eval o).run P w = .ok (.enter f (c.args.map a.eval)) w := by
  have hnb : fn.body.isNone = false := by cases h : fn.body <;> simp [h] at hb ⊢
  have hnn : (fn.name == "runtime.NumGoroutine") = false := by simpa using hname
  simp [execOp, ho, resolve, hcal, Act.eval, Deferred.ofValue, invoke, callFunc, hfn, hnb, hnn]
  rw [if_neg hname, if_neg (by intro e; rw [e] at hb; cases hb)]
 refine OpTo.enter hoi hw hrun ?_
 have hsz : a1.length = (c.args.map a.eval).size := by
  have h2 := congrArg List.length ha1
  have h3 : l.length = c.args.size := by simpa using hll
  simp at h2 ⊢; omega
 refine (hAC w (fun i => φ (rho sel s.h.length i)) (c.args.map a.eval) H1 hsz ?_).mono ?_
 ·intro j v v' e1 e2
  rw [← VR.ren]
  refine hVV j _ _ ?_ (by simpa using e2)
  rw [← ha1]; simp [e1]
 ·rintro e w' ⟨v, v', h1', φ1', rfl, hRv, hV, H1', F⟩
  obtain ⟨hgo, hKR⟩ := hR v h1' hRv (hlen ▸ F.len) F.flags
  obtain ⟨φ', hφ', hH', hF'⟩ := caller_heap H hlen hs H1 H1' F hgo
  refine ⟨v', rfl, ?_⟩
  have hVc : VR φ' (zbw (rho sel s.h.length) v) v' := by rw [VR.ren, hφ']; exact hV
  exact hK' φ' _ v' _ w' hKR hVc hH' hF'
theorem special_O1 {f : Opd → IOp} {x : Operand} (hf : ∀ y, qC (f y) = 0) : qC (O1 f x) = 0 := by
 unfold O1; split
 ·exact hf _
 ·rfl
theorem zja {f : Opd → Opd → IOp} {x y : Operand} (hf : ∀ x y, qC (f x y) = 0) : qC (O2 f x y) = 0 := by
 unfold O2; split
 ·exact hf _ _
 ·rfl
theorem special_bin {op : BinOp} {t : TypeId} {x y : Operand} : qC (cBin P op t x y) = 0 := by
 unfold cBin
 simp only
 repeat' split
 all_goals first | rfl | exact zja (fun _ _ => rfl)
theorem special_spec {o : Oper} (h : qC (cOp P o) ≠ 0) : (∃ c, o.op = .call c) ∨ (∃ s d x, o.op = .convert s d x) ∨ (∃ c v, o.op = .send c v) ∨ (∃ t c b, o.op = .recv t c b) ∨ (∃ cs b, o.op = .select cs b) ∨ (∃ t x, o.op = .range t x) ∨ (∃ x b, o.op = .next x b) ∨ ∃ x, o.op = .entry x := by
 cases ho : o.op with
 | call c => exact .inl ⟨c, rfl⟩
 | convert s d x => exact .inr (.inl ⟨_, _, _, rfl⟩)
 | send c v => exact .inr (.inr (.inl ⟨_, _, rfl⟩))
 | recv t c b => exact .inr (.inr (.inr (.inl ⟨_, _, _, rfl⟩)))
 | select cs b => exact .inr (.inr (.inr (.inr (.inl ⟨_, _, rfl⟩))))
 | range t x => exact .inr (.inr (.inr (.inr (.inr (.inl ⟨_, _, rfl⟩)))))
 | next x b => exact .inr (.inr (.inr (.inr (.inr (.inr (.inl ⟨_, _, rfl⟩))))))
 | entry x => exact .inr (.inr (.inr (.inr (.inr (.inr (.inr ⟨_, rfl⟩))))))
 | binOp op t x y t' => exact absurd (by simp only [cOp, ho]; exact special_bin) h
 | _ =>
  refine absurd ?_ h
  simp only [cOp, ho]
  (repeat' split) <;> first | contradiction | rfl | exact special_O1 (fun _ => rfl) | exact zja (fun _ _ => rfl)
theorem zf0 {f : Opd → IOp} {x : Operand} {r : IOp} (h : O1 f x = r) (hr : qC r ≠ 0) : ∃ y, opd x = some y ∧ r = f y := by
 unfold O1 at h; split at h
 ·rename_i y hy; exact ⟨y, hy, h.symm⟩
 ·subst h; exact absurd rfl hr
theorem zjs {f : Opd → Opd → IOp} {x y : Operand} {r : IOp} (h : O2 f x y = r) (hr : qC r ≠ 0) : ∃ x' y', opd x = some x' ∧ opd y = some y' ∧ r = f x' y' := by
 unfold O2 at h; split at h
 ·rename_i x' y' hx hy; exact ⟨x', y', hx, hy, h.symm⟩
 ·subst h; exact absurd rfl hr
theorem special_inv {o : Oper} {r : IOp} (h : cOp P o = r) (hr : qC r ≠ 0) :
  (∃ c f fn l, o.op = .call c ∧ c.callee = .value (.func f) ∧ P.funcs[f]? = some fn ∧ opds c.args.toList = some l ∧ fn.body.isSome = true ∧ fn.name ≠ "runtime.NumGoroutine" ∧ r = .call fn.name l) ∨
  (∃ x y x' y' st xt el i z, o.op = .call { callee := .builtin .append, args := #[x, y], argTypes := #[st, xt] } ∧ opd x = some x' ∧ opd y = some y' ∧ P.underlying st = some (.slice el) ∧
   ((∃ e2, P.underlying xt = some (.slice e2)) ∨ P.underlying xt = some .string) ∧ P.info? el = some i ∧ i.bytes ≠ 0 ∧ zcE P el = some z ∧ r = .app z i.size i.bytes x' y') ∨
  (∃ sT dT el x x', o.op = .convert sT dT x ∧ opd x = some x' ∧ P.underlying sT = some .string ∧ P.underlying dT = some (.slice el) ∧ P.underlying el = some (.int .u8) ∧ r = .csb x') ∨
  (∃ c v c' v', o.op = .send c v ∧ opd c = some c' ∧ opd v = some v' ∧ r = .snd c' v') ∨
  (∃ t dir el z c c', o.op = .recv t c false ∧ opd c = some c' ∧ P.underlying t = some (.chan dir el) ∧ zcE P el = some z ∧ r = .rcv c') ∨
  (∃ sc z m c', o.op = .select #[sc] false ∧ sc.send = none ∧ opd sc.chan = some c' ∧ zcE P sc.elem = some z ∧ ldn P sc.elem = some m ∧ zhW P sc.elem = m.isSome ∧ r = .sel1 z m.isSome c') ∨
  (∃ t kt el x x', o.op = .range t x ∧ opd x = some x' ∧ P.underlying t = some (.map kt el) ∧ r = .rng x') ∨
  (∃ x x', o.op = .next x false ∧ opd x = some x' ∧ r = .nxt x') ∨
  (∃ x x', o.op = .entry x ∧ opd x = some x' ∧ r = .ent x') := by
 rcases special_spec (o := o) (P := P) (h ▸ hr) with ⟨c, ho⟩ | ⟨sT, dT, x, ho⟩ | ⟨c, v, ho⟩ | ⟨t, c, b, ho⟩ | ⟨cs, b, ho⟩ | ⟨t, x, ho⟩ | ⟨x, b, ho⟩ | ⟨x, ho⟩
 ·simp only [cOp, ho] at h
  obtain ⟨callee, args, argTypes⟩ := c
  unfold cCall at h
  simp only at h
  split at h
  ·split at h
   ·rename_i fn l hfn hl
    split at h
    ·rename_i hb
     simp only [Bool.and_eq_true, bne_iff_ne] at hb
     exact .inl ⟨_, _, fn, l, ho, rfl, hfn, hl, hb.1, hb.2, h.symm⟩
    ·subst h; exact absurd rfl hr
   ·subst h; exact absurd rfl hr
  ·exfalso
   split at h <;> first
    | (obtain ⟨y, _, rfl⟩ := zf0 h hr; exact hr rfl)
    | (subst h; exact hr rfl)
  ·rename_i x y st xt e1 e2
   have ho' : o.op = .call { callee := .builtin .append, args := #[x, y], argTypes := #[st, xt] } := by rw [ho, zi6 e1, zi6 e2]
   refine .inr (.inl ?_)
   split at h
   ·rename_i el e2 hu hxt
    split at h
    ·rename_i m b z hm hb hz
     split at h
     ·subst h; exact absurd rfl hr
     ·rename_i hb0
      obtain ⟨x', y', hx, hy, rfl⟩ := zjs h hr
      obtain ⟨it, hi, rfl⟩ := zgt hm
      simp only [hi, Option.map_some, Option.some.injEq] at hb
      subst hb
      exact ⟨x, y, x', y', st, xt, el, it, z, ho', hx, hy, hu, .inl ⟨_, hxt⟩, hi, by simpa using hb0, hz, rfl⟩
    ·subst h; exact absurd rfl hr
   ·rename_i el hu hxt
    split at h
    ·rename_i m b z hm hb hz
     split at h
     ·subst h; exact absurd rfl hr
     ·rename_i hb0
      obtain ⟨x', y', hx, hy, rfl⟩ := zjs h hr
      obtain ⟨it, hi, rfl⟩ := zgt hm
      simp only [hi, Option.map_some, Option.some.injEq] at hb
      subst hb
      exact ⟨x, y, x', y', st, xt, el, it, z, ho', hx, hy, hu, .inr hxt, hi, by simpa using hb0, hz, rfl⟩
    ·subst h; exact absurd rfl hr
   ·subst h; exact absurd rfl hr
  ·exfalso
   split at h <;> first
    | (split at h <;> first | (obtain ⟨_, _, _, _, rfl⟩ := zjs h hr; exact hr rfl) | (subst h; exact hr rfl))
    | (subst h; exact hr rfl)
  ·exfalso
   split at h <;> first
    | (obtain ⟨_, _, _, _, rfl⟩ := zjs h hr; exact hr rfl)
    | (subst h; exact hr rfl)
  ·exfalso
   split at h <;> first
    | (obtain ⟨_, _, _, _, rfl⟩ := zjs h hr; exact hr rfl)
    | (subst h; exact hr rfl)
  all_goals (subst h; exact absurd rfl hr)
 ·simp only [cOp, ho] at h
  split at h
  ·obtain ⟨_, _, rfl⟩ := zf0 h hr; exact absurd rfl hr
  ·obtain ⟨_, _, rfl⟩ := zf0 h hr; exact absurd rfl hr
  ·rename_i el hu1 hu2
   split at h
   ·rename_i hu3
    obtain ⟨y, hy, rfl⟩ := zf0 h hr
    exact .inr (.inr (.inl ⟨sT, dT, el, x, y, ho, hy, hu1, hu2, hu3, rfl⟩))
   ·subst h; exact absurd rfl hr
  ·split at h
   ·obtain ⟨_, _, rfl⟩ := zf0 h hr; exact absurd rfl hr
   ·subst h; exact absurd rfl hr
  ·subst h; exact absurd rfl hr
 ·simp only [cOp, ho] at h
  obtain ⟨c', v', hc, hv, rfl⟩ := zjs h hr
  exact .inr (.inr (.inr (.inl ⟨c, v, c', v', ho, hc, hv, rfl⟩)))
 ·cases b with
  | true => simp only [cOp, ho] at h; subst h; exact absurd rfl hr
  | false =>
   simp only [cOp, ho] at h
   split at h
   ·rename_i dir el hu
    split at h
    ·rename_i hz
     obtain ⟨c', hc, rfl⟩ := zf0 h hr
     obtain ⟨z, hz⟩ := Option.isSome_iff_exists.1 hz
     exact .inr (.inr (.inr (.inr (.inl ⟨t, dir, el, z, c, c', ho, hc, hu, hz, rfl⟩))))
    ·subst h; exact absurd rfl hr
   ·subst h; exact absurd rfl hr
 ·cases b with
  | true => simp only [cOp, ho] at h; subst h; exact absurd rfl hr
  | false =>
   simp only [cOp, ho] at h
   split at h
   ·rename_i sc hsc
    split at h
    ·rename_i z m hsn hz hm
     split at h
     ·rename_i hg
      obtain ⟨c', hc, rfl⟩ := zf0 h hr
      exact .inr (.inr (.inr (.inr (.inr (.inl ⟨sc, z, m, c', by rw [ho, one_of hsc], hsn, hc, hz, hm, hg, rfl⟩)))))
     ·subst h; exact absurd rfl hr
    ·subst h; exact absurd rfl hr
   ·subst h; exact absurd rfl hr

 ·simp only [cOp, ho] at h
  split at h
  ·rename_i kt el hu
   obtain ⟨x', hx, rfl⟩ := zf0 h hr
   exact .inr (.inr (.inr (.inr (.inr (.inr (.inl ⟨t, kt, el, x, x', ho, hx, hu, rfl⟩))))))
  ·subst h; exact absurd rfl hr
 ·cases b with
  | true => simp only [cOp, ho] at h; subst h; exact absurd rfl hr
  | false =>
   simp only [cOp, ho] at h
   obtain ⟨x', hx, rfl⟩ := zf0 h hr
   exact .inr (.inr (.inr (.inr (.inr (.inr (.inr (.inl ⟨x, x', ho, hx, rfl⟩)))))))
 ·simp only [cOp, ho] at h
  obtain ⟨x', hx, rfl⟩ := zf0 h hr
  exact .inr (.inr (.inr (.inr (.inr (.inr (.inr (.inr ⟨x, x', ho, hx, rfl⟩)))))))
theorem zfw (hC : ziM P C) (H0 : HR φ0 (hf h0) w0) {i : Nat} {o : Oper} (hoi : ops[i]? = some o) (hw : Region.wanted o (yielded ops a.tmps) = true) (hd : ∀ t, o.dst = some t → t < n) {K : St → Prop} (I : Inv n φ0 h0 w0 φ s a w)
  (hK : zfQ C (cOp P o) s.f s.h fun v h => K ⟨zas s.f o.dst v, h⟩) : OpTo P ops i (Sim n φ0 h0 w0 K) a w := by
 have he := I.ev
 have fin : ∀ φ' v v' h' w', K ⟨zas s.f o.dst v, h'⟩ → VR φ' v v' → HR φ' (hf h') w' → FrC φ s.h w φ' h' w' → Sim n φ0 h0 w0 K (a.put o.dst v') w' :=
  fun φ' v v' h' w' k1 k2 k3 k4 => ⟨φ', _, k1, I.step H0 hd k2 k3 k4⟩
 have finOK : ∀ {K' : Value → List Blk → Prop}, (∀ v h, K' v h → K ⟨zas s.f o.dst v, h⟩) → OpOK P o φ s.h a w K' → OpTo P ops i (Sim n φ0 h0 w0 K) a w := by
  rintro K' hKK ⟨φ', v, v', h', w', hr, k1, k2, k3, k4⟩
  exact OpTo.runs hoi hw hr (fin φ' v v' h' w' (hKK _ _ k1) k2 k3 k4)
 have finCh : ∀ {K' : Value → List Blk → Prop}, (∀ v h, K' v h → K ⟨zas s.f o.dst v, h⟩) → ChOK P ops i o φ s.h a w K' → OpTo P ops i (Sim n φ0 h0 w0 K) a w := by
  rintro K' hKK ⟨v, v', h', w', hr, k1, k2, k3, k4⟩
  refine hr.mono ?_
  rintro a1 w1 ⟨rfl, rfl⟩
  exact fin φ v v' h' _ (hKK _ _ k1) k2 k3 k4
 have plain : (match zQ (cOp P o) (evf s.f) (hf s.h) s.h.length with | some (v, e) => K ⟨zas s.f o.dst v, e.on s.h⟩ | none => False) → OpTo P ops i (Sim n φ0 h0 w0 K) a w := by
  intro hp
  split at hp
  ·rename_i v f hs
   obtain ⟨φ', v', w', hr, k2, k3, k4⟩ := (zi7 (P := P) (o := o) he I.heap (zfc s.h) hs).step (fun k b e => zeZ (e ▸ hs)) (fun b e => (zfy (e ▸ hs)).1)
   exact OpTo.runs hoi hw hr (fin φ' v v' _ w' hp k2 k3 k4)
  ·cases hp
 by_cases hsp : qC (cOp P o) = 0
 ·refine plain ?_
  unfold zfQ at hK
  split at hK <;> first
   | exact hK
   | (rename_i hop; rw [hop] at hsp; cases hsp)
 ·rcases special_inv (P := P) (o := o) rfl hsp with ⟨c, f, fn, l, ho, h1, h2, h3, h4, h5, h6⟩ | ⟨x, y, x', y', st, xt, el, it, z, ho, hx, hy, h1, h2, h3, h4, h5, h6⟩ | ⟨sT, dT, el, x, x', ho, hx, h1, h2, h3, h6⟩ |
   ⟨c, v, c', v', ho, hc, hv, h6⟩ | ⟨t, dir, el, z, c, c', ho, hc, h1, h2, h6⟩ | ⟨sc, z, m, c', ho, h1, h2, h3, h4, h5, h6⟩ | ⟨t, kt, el, x, x', ho, hx, hu, h6⟩ | ⟨x, x', ho, hx, h6⟩ | ⟨x, x', ho, hx, h6⟩ <;> rw [h6] at hK <;> simp only [zfQ] at hK
  ·exact call_ok hC hoi hw he I.heap ho h1 h2 h3 h4 h5 hK fin
  ·exact finOK (fun _ _ h => h) (app_ok he I.heap ho hx hy h1 h2 h3 h4 h5 hK)
  ·exact finOK (fun _ _ h => h) (csb_ok he I.heap ho hx h1 h2 h3 hK)
  ·exact finCh (fun _ _ h => h) (snd_ok hoi hw he I.heap ho hc hv hK)
  ·exact finCh (fun _ _ h => h) (rcv_ok hoi hw he I.heap ho hc h1 h2 hK)
  ·exact finCh (fun _ _ h => h) (sel_ok hoi hw he I.heap ho h1 h2 h3 h4 h5 hK)
  ·exact finOK (fun _ _ h => h) (rng_ok he I.heap ho hx hu hK)
  ·exact finOK (fun _ _ h => h) (nxt_ok he I.heap ho hx hK)
  ·exact finOK (fun _ _ h => h) (ent_ok he I.heap ho hx hK)
end
end Go.Rh
