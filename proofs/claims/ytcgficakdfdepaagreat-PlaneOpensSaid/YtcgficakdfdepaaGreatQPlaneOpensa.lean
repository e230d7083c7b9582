/- The proofs zcl the intermediate form, part QPlaneOpensa. -/
import Derived.WalkKit
import Derived.Laws.CopyRow
open Go.IntKind (i64)
set_option linter.unusedVariables false
set_option linter.unusedSimpArgs false
set_option maxRecDepth 100000
namespace Go.Rh
theorem om {p:Prop} (h:p:=by omega):p:=h
theorem dC {p:Prop} (h:p:=by decide):p:=h
theorem lA {p:Prop} (h:p:=by first | omega | (simp only [List.length_set,List.length_replicate,List.length_append];omega) | (simp;done) | (simp;omega)):p:=h
abbrev RL:=List (Nat×Value)
def zaE:RL→List Value
 | []=> []
 | (n,v)::r=>List.replicate n v++zaE r
inductive NK where
  | ptr | slc | map | chn
  deriving DecidableEq,Inhabited
inductive LK where
  | b | i | s
  deriving DecidableEq,Inhabited
inductive Opd where
  | t (n:Nat)
  | c (v:Value)
  deriving Inhabited
inductive IOp where
  | mv (x:Opd)
  | pick (c a b:Opd)
  | new (z:RL)
  | box (x:Opd)
  | bld (z:RL) (ps:List (Nat×Nat×Opd))
  | bsl (z:RL) (size len:Nat) (ps:List (Nat×Nat×Opd))
  | ld (n:Option Nat) (a:Opd)
  | st (n:Nat) (a v:Opd)
  | nilc (x:Opd)
  | bin (op:BinOp) (x y:Opd)
  | eqb (neg:Bool) (x y:Opd)
  | eqa (neg:Bool) (ks:List (Nat×LK)) (x y:Opd)
  | eqn (neg:Bool) (ty:NK) (x y:Opd)
  | un (op:UnOp) (x:Opd)
  | cvi (k:IntKind) (x:Opd)
  | cst (x:Opd)
  | csb (x:Opd)
  | cbs (x:Opd)
  | fad (off:Nat) (x:Opd)
  | fld (n:Option Nat) (off:Nat) (x:Opd)
  | iadA (len size:Nat) (x i:Opd)
  | iadS (size:Nat) (x i:Opd)
  | ixA (len size:Nat) (n:Option Nat) (x i:Opd)
  | ixS (x i:Opd)
  | slcA (len size:Nat) (x:Opd) (lo hi mx:Option Opd)
  | slcS (size:Nat) (x:Opd) (lo hi mx:Option Opd)
  | slcT (x:Opd) (lo hi:Option Opd)
  | mks (z:RL) (size bytes:Nat) (l c:Opd)
  | ext (i:Nat) (x:Opd)
  | lenS (x:Opd)
  | lenT (x:Opd)
  | lenM (x:Opd)
  | lenC (x:Opd)
  | app (z:RL) (size bytes:Nat) (s x:Opd)
  | appR (z:RL) (size bytes:Nat) (s x:Opd)
  | cpy (size:Nat) (d s:Opd)
  | mm (isMax:Bool) (x y:Opd)
  | call (g:String) (args:List Opd)
  | mkf (g:Nat) (caps:List Opd)
  | callv (x:Opd) (args:List Opd)
  | mkm
  | mkc (n:Nat)
  | lku (kt:LK) (z:RL) (agg ok:Bool) (m k:Opd)
  | mup (kt:LK) (m k v:Opd)
  | rng (x:Opd)
  | nxt (x:Opd)
  | ent (x:Opd)
  | snd (c v:Opd)
  | rcv (c:Opd)
  | sel1 (z:RL) (agg:Bool) (c:Opd)
  | bad (why:String)
  deriving Inhabited
structure ICell where
  dst:Option Nat
  op:IOp
  guard:Option (Nat×Bool)
  deriving Inhabited
inductive IC where
  | skip
  | reg (ops:List ICell)
  | dreg (ops:List ICell) (anc:List (List Nat))
  | seq (a b:IC)
  | cond (c:Opd) (a b:IC)
  | block (id:Nat) (b:IC)
  | loop (b:IC)
  | exit (id:Nat)
  | ret
  | label (l:Nat)
  | goto (l:Nat)
  | scp (l:Nat) (rest b:IC)
  | bad (why:String)
  deriving Inhabited
inductive IRes where
  | tmp (t:Nat)
  | cell (a:Nat) (n:Option Nat)
  deriving Inhabited
structure IFunc where
  ntmps:Nat
  res:List IRes
  body:IC
  deriving Inhabited
def IOp.rdl:IOp→List Opd
 | .ld _ a=> [a]
 | .st _ a _=> [a]
 | .cbs x=> [x]
 | .lenM x=> [x]
 | .lenC x=> [x]
 | .cpy _ d s=> [d,s]
 | .lku _ _ _ _ m _=> [m]
 | .mup _ m _ _=> [m]
 | .appR _ _ _ s x=> [s,x]
 | _=> []
def IOp.opds:IOp→List Opd
 | .mv x | .box x | .ld _ x | .nilc x | .un _ x | .cvi _ x | .cst x | .cbs x | .fad _ x | .fld _ _ x | .ext _ x | .lenS x | .lenT x | .lenM x | .lenC x=> [x]
 | .pick c a b=> [c,a,b]
 | .bld _ ps=>ps.map (·.2.2)
 | .bsl _ _ _ ps=>ps.map (·.2.2)
 | .st _ x y | .bin _ x y | .eqb _ x y | .eqa _ _ x y | .eqn _ _ x y | .iadA _ _ x y | .iadS _ x y | .ixA _ _ _ x y | .ixS x y | .mks _ _ _ x y | .cpy _ x y | .mm _ x y | .lku _ _ _ _ x y | .app _ _ _ x y | .appR _ _ _ x y=> [x,y]
 | .slcA _ _ x a b c | .slcS _ x a b c=>x::(a.toList++b.toList++c.toList)
 | .slcT x a b=>x::(a.toList++b.toList)
 | .mup _ x y z=> [x,y,z]
 | .call _ args=>args
 | .mkf _ caps=>caps
 | .callv x args=>x::args
 | _=> []
def IOp.makes:IOp→Bool
 | .new _ | .box _ | .bsl .. | .mks .. | .mkm | .mkc _ | .appR .. =>true
 | _=>false
def qQ:IOp→Nat
 | .call .. =>1
 | .app .. =>2
 | .csb _=>3
 | .snd .. =>4
 | .rcv _=>5
 | .sel1 .. =>6
 | .rng _=>7
 | .nxt _=>8
 | .ent _=>9
 | .callv .. =>10
 | .appR .. =>11
 | _=>0
def IOp.quiet (op:IOp):Bool:=Nat.beq (qQ op) 0&& !op.makes&&op.rdl.isEmpty
def ICell.looks (c:ICell):List Nat:=(match c.guard with
 | some (g,_)=> [g]
 | none=> [])++c.op.opds.filterMap fun x=>match x with
 | .t n=>some n
 | .c _=>none
def IOp.toR:IOp→IOp
 | .app z n b s x=> .appR z n b s x
 | op=>op
def ICell.toR (c:ICell):ICell:=⟨c.dst,c.op.toR,c.guard⟩
def IOp.det (op:IOp):Bool:=Nat.beq (qQ op) 0 || Nat.beq (qQ op) 11
def pairOK (x y:ICell):Bool:=
  ((x.op.det&&y.op.det) || (Nat.beq (qQ x.op) 1&&y.op.det) || (Nat.beq (qQ x.op) 0&&Nat.beq (qQ y.op) 1) ||
    (Nat.beq (qQ x.op) 2&&y.op.quiet) || (x.op.quiet&&Nat.beq (qQ y.op) 2))&&
  (match x.dst with
   | some d=> !(y.looks.any (Nat.beq d))&&(match y.dst with
     | some d'=> !(Nat.beq d d')
     | none=>true)
   | none=>true)&&
  (match y.dst with
   | some d=> !(x.looks.any (Nat.beq d))
   | none=>true)
def ancs (af:List (List Nat)):List (List Nat):=af.foldl (fun acc l=>acc++ [(l.flatMap fun p=>p::acc.getD p []).eraseDups]) []
def dchk (cells:List ICell) (af anc:List (List Nat)):Bool:=
 Nat.beq af.length cells.length&&Nat.beq anc.length cells.length&&
 (List.range cells.length).all fun i=>
  (af.getD i []).all (fun p=>Nat.blt p i)&&
  (anc.getD i []).all (fun q=>Nat.blt q i&&((af.getD i []).any (Nat.beq q) || (af.getD i []).any fun p=>(anc.getD p []).any (Nat.beq q)))&&
  (List.range i).all fun j=>(anc.getD i []).any (Nat.beq j) || pairOK (cells.getD j default) (cells.getD i default)
def sclf0:Value→Bool
 | .bool _ | .int .. | .string _ | .pointer none | .slice none _ _ | .map none | .chan none | .nilFunc | .nilIface=>true
 | _=>false
def zbG:Value→Bool
 | .bool _ | .int .. | .string _ | .pointer none | .slice none _ _ | .map none | .chan none | .nilFunc | .nilIface=>true
 | .func _ f c=>f.isEmpty&&c.toList.all sclf0
 | _=>false
def aggf:Value→Bool
 | .agg a=>a.toList.all zbG
 | v=>zbG v
def vpf:Value→Bool
 | .tuple vs=>vs.toList.all aggf
 | v=>aggf v
def sameScl:Value→Value→Bool
 | .bool a,.bool b=>a==b
 | .int j a,.int k b=>j==k&&a==b
 | .pointer none,.pointer none=>true
 | .slice none a b,.slice none c d=>a==c&&b==d
 | .map none,.map none=>true
 | .chan none,.chan none=>true
 | .nilIface,.nilIface=>true
 | .nilFunc,.nilFunc=>true
 | _,_=>false
def zhP:List Value→RL
 | []=> []
 | v::r=>match zhP r with
  | (n,u)::q=>if sameScl v u then (n+1,u)::q else (1,v)::(n,u)::q
  | []=> [(1,v)]
def zfB:TypeDesc→Bool
 | .struct _ | .array _ _=>true
 | _=>false
def zeT (P:Program) (t:TypeId):Option Nat:=(P.info? t).map (·.size)
def ldn (P:Program) (t:TypeId):Option (Option Nat):=
 match P.underlying t,P.info? t with
 | some d,some i=>some (if zfB d then some i.size else none)
 | _,_=>none
def zbM (P:Program) (t:TypeId):Option RL:=
 match P.info? t with
 | some i=>match i.zero with
  | some z=>if z.cells.toList.all zbG&&z.cells.size==i.size then some (zhP z.cells.toList) else none
  | none=>none
 | none=>none
def opd:Operand→Option Opd
 | .tmp t=>some (.t t)
 | .const v=>if vpf v then some (.c v) else none
 | .func f=>some (.c (.func (.func f) #[] #[]))
 | _=>none
def opds:List Operand→Option (List Opd)
 | []=>some []
 | x::r=>match opd x,opds r with
  | some a,some l=>some (a::l)
  | _,_=>none
def opdO:Option Operand→Option (Option Opd)
 | none=>some none
 | some x=>(opd x).map some
def zjA (P:Program) (L:TypeId→Option (List LK)) (off:Nat):List Field→Option (List LK)
 | []=>some []
 | f::fs=>match L f.type with
  | some m=>if f.name≠ "_" ∧f.offset=off∧zeT P f.type=some m.length then
    (zjA P L (off+m.length) fs).map (m++·) else none
  | none=>none
def ze7 (P:Program):Nat→TypeId→Option (List LK)
 | 0,_=>none
 | d+1,t=>
  match P.underlying t with
  | some (.bool)=>some [.b]
  | some (.int _)=>some [.i]
  | some (.string)=>some [.s]
  | some (.struct fs)=>if P.stoodInHeld t then none else zjA P (ze7 P d) 0 fs.toList
  | some (.array len e)=>match ze7 P d e with
   | some m=>if zeT P e=some m.length then some (List.replicate len m).flatten else none
   | none=>none
  | _=>none
def packK:List LK→List (Nat×LK)
 | []=> []
 | k::r=>match packK r with
  | (n,u)::q=>if k=u then (n+1,u)::q else (1,k)::(n,u)::q
  | []=> [(1,k)]
def zdW:List (Nat×LK)→List LK
 | []=> []
 | (n,k)::r=>List.replicate n k++zdW r
def zit (P:Program) (fs:List Field):Option (List (Nat×Nat)):=
 fs.mapM fun f=>(zeT P f.type).map fun s=>(f.offset,s)
def zfU (pl:Nat→Option (Nat×Nat)):List (Nat×Operand)→Option (List (Nat×Nat×Opd))
 | []=>some []
 | (i,x)::r=>match pl i,opd x,zfU pl r with
  | some (o,s),some a,some l=>some ((o,s,a)::l)
  | _,_,_=>none
def O2 (f:Opd→Opd→IOp) (x y:Operand):IOp:=match opd x,opd y with
 | some a,some b=>f a b
 | _,_=> .bad "operand"
def O1 (f:Opd→IOp) (x:Operand):IOp:=match opd x with
 | some a=>f a
 | _=> .bad "operand"
def zstr (n:Nat):ByteArray:=⟨(List.replicate n 0).toArray⟩
def cBin (P:Program) (op:BinOp) (t:TypeId) (x y:Operand):IOp:=
 let neg:=op== .neq
 if op== .eql || op== .neq then
  match P.underlying t with
  | some (.int _) | some .string=>O2 (.bin op) x y
  | some .bool=>O2 (.eqb neg) x y
  | some (.struct _) | some (.array ..)=>
   match ze7 P 12 t with
   | some n=>if P.eqGuardType P.depth t then .bad "guard" else O2 (.eqa neg (packK n)) x y
   | none=> .bad "eq"
  | some (.pointer _)=>O2 (.eqn neg .ptr) x y
  | some (.slice _)=>O2 (.eqn neg .slc) x y
  | some (.map ..)=>O2 (.eqn neg .map) x y
  | some (.chan ..)=>O2 (.eqn neg .chn) x y
  | _=> .bad "eq type"
 else match P.underlying t with
  | some (.int _) | some .string=>O2 (.bin op) x y
  | _=> .bad "bin type"
def cCall (P:Program) (c:Call) (t:TypeId):IOp:=
 match c.callee,c.args.toList,c.argTypes.toList with
 | .value (.func f),args,_=>
  match P.funcs[f]?,opds args with
  | some fn,some l=>if fn.body.isSome&&fn.name != "runtime.NumGoroutine" then .call fn.name l else .bad ("body-less " ++fn.name)
  | _,_=> .bad "call"
 | .builtin .len,[x],[t]=>
  match P.underlying t with
  | some (.slice _)=>O1 .lenS x
  | some .string=>O1 .lenT x
  | some (.map ..)=>O1 .lenM x
  | some (.chan ..)=>O1 .lenC x
  | _=> .bad "len"
 | .builtin .append,[s,x],[st,xt]=>
  match P.underlying st,P.underlying xt with
  | some (.slice e),some (.slice _) | some (.slice e),some .string=>
   match zeT P e,(P.info? e).map (·.bytes),zbM P e with
   | some n,some b,some z=>if b==0 then .bad "append 0" else O2 (.app z n b) s x
   | _,_,_=> .bad "append"
  | some (.slice e),some (.int _)=>
   match zeT P e,(P.info? e).map (·.bytes),zbM P e,x with
   | some n,some 1,some [(1,.int .u8 0)],.const (.int .i64 (.ofNat m))=>if Nat.blt 0 m&&Nat.ble m 1000 then O1 (fun s=> .app [(1,.int .u8 0)] n 1 s (.c (.string (zstr m)))) s else .bad "append of make"
   | _,_,_,_=> .bad "append of make"
  | _,_=> .bad "append type"
 | .builtin .copy,[d,s],[dt,st]=>
  match P.underlying dt,P.underlying st with
  | some (.slice e),some (.slice _) | some (.slice e),some .string=>
   match zeT P e with
   | some n=>O2 (.cpy n) d s
   | _=> .bad "copy"
  | _,_=> .bad "copy type"
 | .builtin .max,[x,y],_=>match P.underlying t with | some (.int _)=>O2 (.mm true) x y | _=> .bad "max"
 | .builtin .min,[x,y],_=>match P.underlying t with | some (.int _)=>O2 (.mm false) x y | _=> .bad "min"
 | .builtin b,_,_=> .bad ("builtin " ++toString (repr b))
 | .invoke _ m,_,_=> .bad ("invoke " ++m)
 | .value x,args,_=>match opd x,opds args with
  | some y,some l=> .callv y l
  | _,_=> .bad "call of a value"
def zhT (P:Program) (t:TypeId):Bool:=
 match (P.info? t).bind (·.zero) with
 | some (.agg _)=>true
 | _=>false
def keyK (P:Program) (t:TypeId):Option LK:=
 match P.underlying t with
 | some (.int _)=>some .i
 | some .string=>some .s
 | _=>none
def cOp (P:Program) (o:Oper):IOp:=
 match o.op with
 | .move x | .assign x=>O1 .mv x
 | .pick c a b=>match opd c,opd a,opd b with
  | some c,some a,some b=> .pick c a b
  | _,_,_=> .bad "pick"
 | .alloc t=>match zbM P t with | some z=> .new z | none=> .bad "alloc"
 | .box _ x=>O1 .box x
 | .build t ps=>match P.underlying t,zbM P t with
  | some (.struct fs),some z=>match zit P fs.toList with
   | some pl=>match zfU (pl[·]?) ps.toList with
    | some l=> .bld z l
    | none=> .bad "build parts"
   | none=> .bad "build places"
  | some (.array _ e),some z=>match zeT P e with
   | some s=>match zfU (fun i=>some (i*s,s)) ps.toList with
    | some l=> .bld z l
    | none=> .bad "build parts"
   | none=> .bad "build size"
  | _,_=> .bad "build"
 | .buildSlice t len ps=>match P.underlying t with
  | some (.slice e)=>match zeT P e,zbM P e with
   | some s,some z=>match zfU (fun i=>some (i*s,s)) ps.toList with
    | some l=>if s==0 || len*s > 4096 then .bad "buildSlice 0" else .bsl z s len l
    | none=> .bad "buildSlice parts"
   | _,_=> .bad "buildSlice size"
  | _=> .bad "buildSlice type"
 | .load t a=>match ldn P t with | some n=>O1 (.ld n) a | none=> .bad "load"
 | .store t a v=>match zeT P t with | some n=>O2 (.st n) a v | none=> .bad "store"
 | .nilCheck x=>O1 .nilc x
 | .binOp op t x y _=>cBin P op t x y
 | .unOp op _ x=>O1 (.un op) x
 | .convert s d x=>match P.underlying s,P.underlying d with
  | some (.int _),some (.int k)=>O1 (.cvi k) x
  | some .string,some .string=>O1 .cst x
  | some .string,some (.slice e)=>(match P.underlying e with | some (.int .u8)=>O1 .csb x | _=> .bad "convert runes")
  | some (.slice e),some .string=>(match P.underlying e with | some (.int .u8)=>O1 .cbs x | _=> .bad "convert runes")
  | _,_=> .bad "convert"
 | .fieldAddr s x f=>match P.underlying s with
  | some (.struct fs)=>match fs[f]? with
   | some fd=>(match zeT P fd.type with | some (_+1)=>O1 (.fad fd.offset) x | _=> .bad "fieldAddr 0")
   | none=> .bad "fieldAddr"
  | _=> .bad "fieldAddr"
 | .field s x f=>match P.underlying s with
  | some (.struct fs)=>match fs[f]? with
   | some fd=>(match ldn P fd.type with | some n=>O1 (.fld n fd.offset) x | none=> .bad "field")
   | none=> .bad "field"
  | _=> .bad "field"
 | .indexAddr t x i=>match P.underlying t with
  | some (.array len e)=>(match zeT P e with | some s=>O2 (.iadA len s) x i | none=> .bad "indexAddr")
  | some (.slice e)=>(match zeT P e with | some s=>O2 (.iadS s) x i | none=> .bad "indexAddr")
  | _=> .bad "indexAddr"
 | .index t x i=>match P.underlying t with
  | some (.array len e)=>(match zeT P e,ldn P e with | some s,some n=>O2 (.ixA len s n) x i | _,_=> .bad "index")
  | some .string=>O2 .ixS x i
  | _=> .bad "index"
 | .slice t x lo hi mx=>match P.underlying t,opd x,opdO lo,opdO hi,opdO mx with
  | some (.array n e),some x,some lo,some hi,some mx=>(match zeT P e with | some s=> .slcA n s x lo hi mx | none=> .bad "slice")
  | some (.slice e),some x,some lo,some hi,some mx=>(match zeT P e with | some s=> .slcS s x lo hi mx | none=> .bad "slice")
  | some .string,some x,some lo,some hi,some none=> .slcT x lo hi
  | _,_,_,_,_=> .bad "slice"
 | .makeSlice t l c=>match P.underlying t with
  | some (.slice e)=>(match zeT P e,(P.info? e).map (·.bytes),zbM P e with | some s,some b,some z=>O2 (.mks z s b) l c | _,_,_=> .bad "makeSlice")
  | _=> .bad "makeSlice"
 | .extract t i=>O1 (.ext i) t
 | .makeMap t none=>match P.underlying t with
  | some (.map k _)=>(match keyK P k with | some _=> .mkm | _=> .bad "map key")
  | _=> .bad "makeMap"
 | .makeChan t (.const (.int .i64 n))=>match P.underlying t with
  | some (.chan _ el)=>(match P.info? el with
   | some i=>if 0≤n∧n < 1000000∧i.bytes*n.toNat≤2^48 - 112 then .mkc n.toNat else .bad "makeChan"
   | none=> .bad "makeChan")
  | _=> .bad "makeChan"
 | .lookup t m k ok=>match P.underlying t with
  | some (.map kt e)=>(match keyK P kt,zbM P e,ldn P e with
   | some kk,some z,some n=>if zhT P e=n.isSome then O2 (.lku kk z n.isSome ok) m k else .bad "lookup"
   | _,_,_=> .bad "lookup")
  | _=> .bad "lookup"
 | .mapUpdate t m k v=>match P.underlying t with
  | some (.map kt _)=>(match keyK P kt,opd m,opd k,opd v with
   | some kk,some m,some k,some v=> .mup kk m k v
   | _,_,_,_=> .bad "mapUpdate")
  | _=> .bad "mapUpdate"
 | .range t x=>match P.underlying t with
  | some (.map ..)=>O1 .rng x
  | _=> .bad "range"
 | .next x false=>O1 .nxt x
 | .send c v=>O2 .snd c v
 | .recv t c false=>match P.underlying t with
  | some (.chan _ el)=>if (zbM P el).isSome then O1 .rcv c else .bad "recv"
  | _=> .bad "recv"
 | .select cs false=>match cs.toList with
  | [s]=>(match s.send,zbM P s.elem,ldn P s.elem with
   | none,some z,some n=>if zhT P s.elem=n.isSome then O1 (.sel1 z n.isSome) s.chan else .bad "select"
   | _,_,_=> .bad "select")
  | _=> .bad "select"
 | .call c=>cCall P c o.type
 | .next .. => .bad "next"
 | .makeInterface .. => .bad "makeInterface"
 | .makeFunc (.func g) first caps=>if first.isEmpty then (match opds caps.toList with
  | some l=> .mkf g l
  | none=> .bad "makeFunc") else .bad "makeFunc"
 | .makeFunc .. => .bad "makeFunc"
 | .typeAssert .. => .bad "typeAssert"
 | .insert .. => .bad "insert"
 | .mapEntry .. => .bad "mapEntry"
 | .entryStore .. => .bad "entryStore"
 | .entry x=>O1 .ent x
 | .go .. => .bad "go"
 | .defer .. => .bad "defer"
 | .panic .. => .bad "panic"
 | .ready .. => .bad "ready"
 | .waits .. => .bad "waits"
 | .sliceToArrayPointer .. => .bad "sliceToArrayPointer"
 | .makeMap .. => .bad "makeMap"
 | .makeChan .. => .bad "makeChan"
 | .recv .. => .bad "recv"
 | .select .. => .bad "select"
def zbH (P:Program) (ops:Array Oper) (o:Oper):ICell:=
 match o.guard with
 | none=>⟨o.dst,cOp P o,none⟩
 | some (j,w)=>match (ops[j]?).bind (·.dst) with
  | some d=>⟨o.dst,cOp P o,some (d,w)⟩
  | none=>⟨o.dst,.bad "guard",none⟩
def zfA:IC→List Nat
 | .seq a b=>zfA a++zfA b
 | .label l=> [l]
 | _=> []
def zip (l:Nat):IC→Option IC
 | .seq a b=>match zip l a with
  | some r=>some (.seq r b)
  | none=>zip l b
 | .label l'=>if l'=l then some .skip else none
 | _=>none
def mkScope (b:IC):IC:=match zfA b with
 | []=>b
 | [l]=>match zip l b with
  | some r=> .scp l r b
  | none=> .bad "scope"
 | _=> .bad "labels"
def zb2 (P:Program):Code→IC
 | .skip=> .skip
 | .region _ ops draw=>
  if draw then (let cells:=ops.toList.map (zbH P ops)
   let af:=ops.toList.map fun o=>(o.after.toList.filter (Region.binds .any)).map (·.on)
   if P.follows .mixedOrders&&dchk cells af (ancs af) then .dreg cells (ancs af) else
    if P.follows .mixedOrders&&dchk (cells.map ICell.toR) af (ancs af) then .dreg (cells.map ICell.toR) (ancs af) else .bad "orders")
  else .reg (ops.toList.map (zbH P ops))
 | .seq a b=> .seq (zb2 P a) (zb2 P b)
 | .cond c a b=>match opd c with
  | some x=> .cond x (zb2 P a) (zb2 P b)
  | none=> .bad "cond"
 | .block id b=> .block id (zb2 P b)
 | .loop b=> .loop (zb2 P b)
 | .exit id=> .exit id
 | .scope b=>mkScope (zb2 P b)
 | .ret=> .ret
 | .rangeFunc .. => .bad "rangeFunc"
 | .label l=> .label l
 | .goto l=> .goto l
 | .refuse w=> .bad ("refuse " ++w)
def cRes (P:Program):List ResultVar→Option (List IRes)
 | []=>some []
 | .tmp t::r=>(cRes P r).map (.tmp t::·)
 | .cell a t::r=>match ldn P t,cRes P r with
  | some n,some l=>some (.cell a n::l)
  | _,_=>none
def zeC (n:Nat) (c:ICell):Bool:=match c.dst with
 | some d=>decide (d < n)
 | none=>true
def wfC (n:Nat):IC→Bool
 | .reg ops=>ops.all (zeC n)
 | .dreg ops _=>ops.all (zeC n)
 | .seq a b=>wfC n a&&wfC n b
 | .cond _ a b=>wfC n a&&wfC n b
 | .block _ b=>wfC n b
 | .loop b=>wfC n b
 | .scp _ r b=>wfC n r&&wfC n b
 | _=>true
def cFunc (P:Program) (fn:Func):Option IFunc:=
 match fn.body,cRes P fn.results.toList with
 | some c,some r=>if wfC fn.ntmps (zb2 P c) then some ⟨fn.ntmps,r,zb2 P c⟩ else none
 | _,_=>none
def qE (P:Program) (g:String):Option IFunc:=
 match P.funcs.toList.filter (·.name==g) with
 | [fn]=>cFunc P fn
 | _=>none
def codeAt (P:Program) (n:Nat):Option IFunc:=match P.funcs[n]? with
 | some fn=>if fn.name== "runtime.NumGoroutine" then none else cFunc P fn
 | none=>none
abbrev kq (d:Nat) (e:IOp):ICell:=⟨some d,e,none⟩
abbrev km (d x:Nat):ICell:=⟨some d,.mv (.t x),none⟩
abbrev ku (e:IOp):ICell:=⟨none,e,none⟩
abbrev kg (d:Nat) (e:IOp) (g:Nat) (b:Bool):ICell:=⟨some d,e,some (g,b)⟩
abbrev ki (n:Int):Opd:= .c (.int .i64 n)
abbrev kF:Opd:= .c (.bool false)
abbrev kT:Opd:= .c (.bool true)
abbrev kA:RL:= [(324,.int .i64 0),(6,.int .u64 0)]
abbrev kB:RL:= [(3,.int .i64 0),(2,.bool false),(5,.int .i64 0),(2,.int .u64 0),(324,.int .i64 0),(6,.int .u64 0)]
abbrev kC:RL:= [(5,.int .i64 0),(2,.int .u64 0)]
abbrev we a:=(.ld none (.t a):IOp)
abbrev wh a b:=(.fad a (.t b):IOp)
abbrev wI:=(.mv (ki 0):IOp)
abbrev wN a b:=(.bin .add (.t a) (ki b):IOp)
abbrev wU a b:=(.cond (.t a) .skip (.exit b):IC)
abbrev vY a:=(.box (.t a):IOp)
abbrev xd a:=(.lenS (.t a):IOp)
abbrev xk a b:=(.bin .lss (.t a) (.t b):IOp)
abbrev Wr a b:=(.reg [kq a (wN b 1),km b a]:IC)
abbrev WD a b c:=(.iadS a (.t b) (.t c):IOp)
abbrev W7 a:=(.reg [kq a (.mv kF)]:IC)
def zjS:IFunc:=⟨18,[.tmp 4],(.seq (.reg [kq 2 (vY 0),kq 4 (.mv kF)]) (.seq (.seq (.reg [km 7 1,kq 8 (xd 7),kq 9 wI]) (.block 0 (.loop (.seq (.reg [kq 10 (xk 9 8)]) (.seq (wU 10 0) (.seq (.block 1 (.seq (.reg [kq 11 (WD 1 7 9),kq 12 (we 11),km 6 12]) (.seq (.reg [kq 13 (wh 0 2),kq 14 (we 13),km 15 6,kq 16 (.bin .eql (.t 14) (.t 15))]) (.cond (.t 16) (.seq (.reg [kq 4 (.mv kT)]) .ret) .skip)))) (Wr 17 9))))))) (.seq (W7 4) .ret)))⟩
abbrev ww a b:=(.ld (some a) (.t b):IOp)
abbrev wE:=(.int .i64 0:Value)
abbrev x7 a b:=([(.t a),(.t b)]:List Opd)
def zhp:IFunc:=⟨6,[.tmp 2],(.seq (.reg [kq 1 (vY 0),kq 2 (.mv kF)]) (.seq (.reg [kq 3 (ww 5 1),kq 4 (.bsl [(1,wE)] 1 3 [(0,1,(ki 1)),(1,1,(ki 2)),(2,1,(ki 3))]),kq 5 (.call "roundhouse/pool.may" (x7 3 4)),km 2 5]) .ret))⟩
abbrev wq a b c:=(.st a (.t b) (.t c):IOp)
abbrev wW a b:=(.pick (.t a) (.t b) kF:IOp)
abbrev vq a b:=(.bin .lss (.t a) (ki b):IOp)
abbrev vr a:=(.mv (.t a):IOp)
abbrev Wi a:=(.un .not (.t a):IOp)
def ziT:IFunc:=⟨33,[.tmp 6,.tmp 7],(.seq (.reg [kq 3 (vY 0),kq 6 wI,kq 7 (.mv kF)]) (.seq (.seq (.reg [kq 10 (wh 3 3),kq 11 (ww 320 10),kq 12 wI]) (.block 0 (.loop (.seq (.reg [kq 13 (vq 12 64)]) (.seq (wU 13 0) (.seq (.block 1 (.seq (.reg [km 14 12,kq 15 (.ixA 64 5 (some 5) (.t 11) (.t 12)),kq 9 (.new [(5,wE)]),km 8 14,ku (wq 5 9 15)]) (.seq (.reg [kq 16 (ww 5 9),kq 17 (.bsl [(1,wE)] 1 2 [(0,1,(ki 0)),(1,1,(ki 4))]),kq 18 (.call "roundhouse/pool.may" (x7 16 17)),kq 19 (Wi 18),km 20 19,kg 21 (wh 1 9) 20 true,kg 22 (we 21) 20 true,kg 23 (wh 2 9) 20 true,kg 24 (we 23) 20 true,kg 25 (.bld [(2,wE)] [(0,1,(.t 22)),(1,1,(.t 24))]) 20 true,kg 26 (vr 1) 20 true,kg 27 (vr 2) 20 true,kg 28 (.bld [(2,wE)] [(0,1,(.t 26)),(1,1,(.t 27))]) 20 true,kg 29 (.eqa false [(2,.i)] (.t 25) (.t 28)) 20 true,kq 30 (wW 20 29)]) (.cond (.t 30) (.seq (.reg [km 31 8,km 6 31,kq 7 (.mv kT)]) .ret) .skip)))) (Wr 32 12))))))) (.seq (.reg [kq 6 wI,kq 7 (.mv kF)]) .ret)))⟩
abbrev wH a b:=(.reg [kq a (.mv (ki b))]:IC)
abbrev wR a:=(.c (.int .u64 a):Opd)
abbrev yA a b:=(.bin .add (.t a) (.t b):IOp)
def zjJ:IFunc:=⟨15,[.tmp 4],(.seq (wH 4 0) (.seq (.reg [km 6 0,km 7 1,kq 8 (yA 6 7),km 5 8]) (.seq (.reg [km 9 5,kq 10 (.bin .and (.t 9) (ki 65535)),km 11 5,kq 12 (.bin .shr (.t 11) (wR 16)),kq 13 (.bin .and (.t 12) (ki 65535)),kq 14 (yA 10 13),km 4 14]) .ret)))⟩
abbrev yj:=(.seq (.seq (.reg [km 6 4,km 7 0,kq 8 (.lenS (.t 7)),kq 9 (.bin .lss (.t 6) (.t 8))]) (.cond (.t 9) (.seq (.reg [km 10 0,km 11 4,kq 12 (.iadS 1 (.t 10) (.t 11)),kq 13 (we 12),kq 14 (.cvi .i64 (.t 13)),kq 15 (.bin .shl (.t 14) (wR 8)),km 5 15]) (.seq (.seq (.reg [km 16 4,kq 17 (wN 16 1),km 18 0,kq 19 (.lenS (.t 18)),kq 20 (.bin .lss (.t 17) (.t 19))]) (.cond (.t 20) (.reg [km 21 5,km 22 0,km 23 4,kq 24 (wN 23 1),kq 25 (.iadS 1 (.t 22) (.t 24)),kq 26 (we 25),kq 27 (.cvi .i64 (.t 26)),kq 28 (.bin .add (.t 21) (.t 27)),km 5 28]) .skip)) (.seq (.reg [km 29 3,km 30 5,kq 31 (.call "roundhouse/sum.Plus" [(.t 29),(.t 30)]),km 3 31]) (.seq (.reg [km 32 4,kq 33 (wN 32 2),km 4 33]) (.goto 0))))) .skip)) (.seq (.reg [km 34 3,km 2 34]) .ret):IC)
def c_sum_Add:IFunc:=⟨35,[.tmp 2],(.seq (wH 2 0) (.scp 0 (.seq .skip yj) (.seq (.reg [kq 3 wI,kq 4 wI]) (.seq (.label 0) yj))))⟩
abbrev wF a b:=(.bin .eql (.t a) (ki b):IOp)
def ziG:IFunc:=⟨6,[.tmp 2],(.seq (W7 2) (.seq (.reg [km 3 0,kq 4 (.call "roundhouse/sum.Add" [(.t 3)]),kq 5 (wF 4 65535),km 2 5]) .ret))⟩
def zjI:IFunc:=⟨15,[.tmp 6],(.seq (wH 6 0) (.seq (.reg [km 7 0,kq 8 (.bin .sub (ki 65535) (.t 7)),km 9 1,kq 10 (.bin .sub (ki 65535) (.t 9)),km 11 2,kq 12 (.call "roundhouse/sum.Plus" (x7 10 11)),kq 13 (.call "roundhouse/sum.Plus" (x7 8 12)),kq 14 (.bin .sub (ki 65535) (.t 13)),km 6 14]) .ret))⟩
def ziS:IFunc:=⟨14,[.tmp 4],(.seq (wH 4 0) (.seq (.reg [km 6 0,km 7 1,kq 8 (yA 6 7),km 5 8]) (.seq (.seq (.reg [km 9 5,kq 10 (.bin .gtr (.t 9) (ki 65535))]) (.cond (.t 10) (.reg [km 11 5,kq 12 (.bin .sub (.t 11) (ki 65535)),km 5 12]) .skip)) (.seq (.reg [km 13 5,km 4 13]) .ret))))⟩
abbrev xi a:=(.cvi .i64 (.t a):IOp)
abbrev WU a b c d:=(.reg [km a b,kq c (wN a d),km b c]:IC)
def zjR:IFunc:=⟨35,[.tmp 2],(.seq (wH 2 0) (.seq (wH 3 0) (.seq (.seq (wH 4 0) (.block 0 (.loop (.seq (.seq (.reg [km 6 4,km 7 0,kq 8 (xd 7),kq 9 (xk 6 8)]) (wU 9 0)) (.seq (.block 1 (.seq (.reg [km 12 0,km 13 4,kq 14 (WD 1 12 13),kq 15 (we 14),kq 16 (xi 15),kq 17 (.bin .shl (.t 16) (wR 8)),km 5 17]) (.seq (.seq (.reg [km 18 4,kq 19 (wN 18 1),km 20 0,kq 21 (xd 20),kq 22 (xk 19 21)]) (.cond (.t 22) (.reg [km 23 5,km 24 0,km 25 4,kq 26 (wN 25 1),kq 27 (WD 1 24 26),kq 28 (we 27),kq 29 (xi 28),kq 30 (yA 23 29),km 5 30]) .skip)) (.reg [km 31 3,km 32 5,kq 33 (.call "roundhouse/roundhouseref1.Plus" (x7 31 32)),km 3 33])))) (WU 10 4 11 2)))))) (.seq (.reg [km 34 3,km 2 34]) .ret))))⟩
def c_ref1_Of:IFunc:=⟨6,[.tmp 2],(.seq (wH 2 0) (.seq (.reg [km 3 0,kq 4 (.call "roundhouse/roundhouseref1.Add" [(.t 3)]),kq 5 (.bin .sub (ki 65535) (.t 4)),km 2 5]) .ret))⟩
abbrev Wh a b:=(.bin .or (.t a) (.t b):IOp)
def zjF:IFunc:=⟨28,[.tmp 6],(.seq (wH 6 0) (.seq (wH 7 0) (.seq (.seq (.reg [km 10 0,km 11 1,km 12 1,km 13 2,kq 14 (yA 12 13),kq 15 (.slcS 1 (.t 10) (some (.t 11)) (some (.t 14)) none),kq 16 (xd 15),kq 17 wI]) (.block 0 (.loop (.seq (.reg [kq 18 (xk 17 16)]) (.seq (wU 18 0) (.seq (.block 1 (.seq (.reg [kq 19 (WD 1 15 17),kq 20 (we 19),km 9 20]) (.reg [km 21 7,kq 22 (.bin .shl (.t 21) (wR 8)),km 23 9,kq 24 (xi 23),kq 25 (Wh 22 24),km 7 25]))) (Wr 26 17))))))) (.seq (.reg [km 27 7,km 6 27]) .ret))))⟩
abbrev va:=(.seq (.reg [km 9 2,kq 10 (.bin .sub (.t 9) (ki 1)),km 8 10]) (.block 0 (.loop (.seq (.seq (.reg [km 11 8,kq 12 (.bin .geq (.t 11) (ki 0))]) (wU 12 0)) (.seq (.block 1 (.seq (.reg [km 15 0,km 16 1,km 17 8,kq 18 (yA 16 17),km 19 3,kq 20 (.cvi .u8 (.t 19)),kq 21 (.iadS 1 (.t 15) (.t 18)),ku (wq 1 21 20)]) (.reg [km 22 3,kq 23 (.bin .shr (.t 22) (wR 8)),km 3 23]))) (.reg [km 13 8,kq 14 (.bin .sub (.t 13) (ki 1)),km 8 14]))))):IC)
def zjE:IFunc:=⟨24,[],va⟩
abbrev Wp a b c:=(.seq (wH 2 0) (.seq (.seq (.reg [km 3 0,kq 4 (wF 3 a)]) (.cond (.t 4) (.seq (wH 2 b) .ret) .skip)) (.seq (wH 2 c) .ret)):IC)
def zfc:IFunc:=⟨5,[.tmp 2],(Wp 3 18 22)⟩
def zhc:IFunc:=⟨9,[.tmp 2],(.seq (W7 2) (.seq (.reg [km 3 0,kq 4 (.bin .geq (.t 3) (ki 1)),km 5 4,kg 6 (vr 0) 5 true,kg 7 (.bin .leq (.t 6) (ki 3)) 5 true,kq 8 (wW 5 7),km 2 8]) .ret))⟩
def zgq:IFunc:=⟨12,[.tmp 4],(.seq (W7 4) (.seq (.reg [km 5 0,kq 6 (.bin .geq (.t 5) (ki 0)),km 7 6,kg 8 (vr 0) 7 true,kg 9 (vr 1) 7 true,kg 10 (.bin .leq (.t 8) (.t 9)) 7 true,kq 11 (wW 7 10),km 4 11]) .ret))⟩
def ziE:IFunc:=⟨19,[.tmp 4],(.seq (wH 4 0) (.seq (.seq (.reg [km 5 1,kq 6 (wN 5 1),km 7 0,kq 8 (xd 7),kq 9 (.bin .eql (.t 6) (.t 8))]) (.cond (.t 9) (.seq (.reg [km 10 0,km 11 1,kq 12 (WD 1 10 11),kq 13 (we 12),kq 14 (xi 13),kq 15 (.bin .shl (.t 14) (wR 8)),km 4 15]) .ret) .skip)) (.seq (.reg [km 16 0,km 17 1,kq 18 (.call "roundhouse/wire.get" [(.t 16),(.t 17),(ki 2)]),km 4 18]) .ret)))⟩
abbrev wD:=(.slice none 0 0:Value)
abbrev Ww:=(.mv (.c wD):IOp)
def zhd:IFunc:=⟨14,[.tmp 2],(.seq (.reg [kq 2 Ww]) (.seq (.seq (.reg [km 4 0,kq 5 (xd 4),kq 6 (wF 5 0)]) (.cond (.t 6) (.seq (.reg [kq 2 Ww]) .ret) .skip)) (.seq (.reg [km 7 0,kq 8 (xd 7),kq 9 (.mks [(1,(.int .u8 0))] 1 1 (.t 8) (.t 8)),km 3 9]) (.seq (.reg [km 10 3,km 11 0,kq 12 (.cpy 1 (.t 10) (.t 11))]) (.seq (.reg [km 13 3,km 2 13]) .ret)))))⟩
def zjO:IFunc:=⟨24,[],va⟩
def zhn:IFunc:=⟨5,[.tmp 2],(Wp 3 18 22)⟩
abbrev yq a b:=(.pick (.t a) kT (.t b):IOp)
def zjP:IFunc:=⟨12,[.tmp 4],(.seq (W7 4) (.seq (.reg [km 5 0,kq 6 (vq 5 0),km 7 6,kg 8 (vr 0) 7 false,kg 9 (vr 1) 7 false,kg 10 (.bin .gtr (.t 8) (.t 9)) 7 false,kq 11 (yq 7 10),km 4 11]) .ret))⟩
abbrev vM a b:=(.iadS 1 (.t a) (ki b):IOp)
abbrev Wv a:=(.seq (wH 2 a) .ret:IC)
def ziF:IFunc:=⟨52,[.tmp 2],(.seq (wH 2 0) (.seq (.block 0 (.seq (.reg [km 4 0,kq 5 (xd 4),kq 6 (vq 5 16),km 3 6]) (.cond (.t 3) (Wv 1) (.seq (.reg [km 8 0,kq 9 (vM 8 0),kq 10 (we 9),kq 11 (xi 10),kq 12 (.call "roundhouse/wire.known" [(.t 11)]),kq 13 (Wi 12),km 7 13]) (.cond (.t 7) (Wv 2) (.seq (.reg [km 15 0,kq 16 (.call "roundhouse/wire.get" [(.t 15),(ki 2),(ki 2)]),km 17 0,kq 18 (xd 17),kq 19 (.bin .neq (.t 16) (.t 18)),km 20 19,kg 21 (vr 0) 20 false,kg 22 (xd 21) 20 false,kg 23 (.bin .gtr (.t 22) (ki 1500)) 20 false,kq 24 (yq 20 23),km 25 24,kg 26 (vr 0) 25 false,kg 27 (vM 26 13) 25 false,kg 28 (we 27) 25 false,kg 29 (.bin .neq (.t 28) (.c (.int .u8 0))) 25 false,kq 30 (yq 25 29),km 14 30]) (.cond (.t 14) (Wv 3) (.seq (.reg [km 32 0,kq 33 (.slcS 1 (.t 32) none (some (ki 16)) none),kq 34 (.call "roundhouse/sum.Right" [(.t 33)]),kq 35 (Wi 34),km 31 35]) (.cond (.t 31) (Wv 4) (.seq (.reg [km 37 0,kq 38 (xd 37),kq 39 (vq 38 24),km 40 39,kg 41 (vr 0) 40 false,kg 42 (vM 41 0) 40 false,kg 43 (we 42) 40 false,kg 44 (xi 43) 40 false,kg 45 (wF 44 3) 40 false,kg 46 (vr 45) 40 false,kg 47 (vr 0) 46 true,kg 48 (xd 47) 46 true,kg 49 (vq 48 44) 46 true,kg 50 (wW 46 49) 40 false,kq 51 (yq 40 50),km 36 51]) (.cond (.t 36) (Wv 1) .skip))))))))))) (Wv 0)))⟩
abbrev vt a b:=(.bin .neq (.t a) (ki b):IOp)
abbrev vu:=(.new [(9,(.int .i64 0)),(1,(.bool false)),(1,(.int .i64 0)),(2,(.slice none 0 0))]:IOp)
abbrev v9 a b c d:=(.reg [kq a (wF b c),km d a]:IC)
abbrev Wx a b c d e f g:=km a 0::kq b (.call "roundhouse/wire.get" [(.t a),(ki c),(ki 2)])::km d 0::kq e (.call "roundhouse/wire.get" [(.t d),(ki f),(ki 2)])::g
abbrev Ye:=(.bld [(9,(.int .i64 0)),(1,(.bool false)),(1,(.int .i64 0)),(2,(.slice none 0 0))] []:IOp)
def zhf:IFunc:=⟨108,[.cell 2 (some 13),.tmp 3],(.seq (.reg [kq 2 vu,kq 3 wI]) (.seq (.seq (.reg [km 7 0,kq 8 (.call "roundhouse/wire.head" [(.t 7)]),km 4 8]) (.seq (.reg [km 9 4,kq 10 (vt 9 0)]) (.cond (.t 10) (.seq (.reg [kq 11 Ye,km 12 4,ku (wq 13 2 11),km 3 12]) .ret) .skip))) (.seq (.dreg [km 13 0,kq 14 (vM 13 0),kq 15 (we 14),kq 16 (xi 15),km 17 0,kq 18 (vM 17 1),kq 19 (we 18),kq 20 (xi 19),km 21 0,kq 22 (vM 21 12),kq 23 (we 22),kq 24 (xi 23),km 25 0,kq 26 (.call "roundhouse/wire.get" [(.t 25),(ki 4),(ki 4)]),km 27 0,kq 28 (.call "roundhouse/wire.get" [(.t 27),(ki 8),(ki 4)]),kq 29 (.bld [(9,(.int .i64 0)),(1,(.bool false)),(1,(.int .i64 0)),(2,(.slice none 0 0))] [(0,1,(.t 16)),(1,1,(.t 20)),(2,1,(.t 24)),(3,1,(.t 26)),(4,1,(.t 28))]),kq 5 vu,ku (wq 13 5 29)] [[],[0],[1,0],[2,1,0],[],[4],[5,4],[6,5,4],[],[8],[9,8],[10,9,8],[],[12],[],[14,13,12],[3,2,1,0,7,6,5,4,11,10,9,8,13,12,15,14],[],[17,16,3,2,1,0,7,6,5,4,11,10,9,8,13,12,15,14]]) (.seq (wH 6 24) (.seq (.seq (.reg [kq 30 (wh 0 5),kq 31 (we 30)]) (.block 0 (.seq (v9 72 31 3 71) (.cond (.t 71) (.seq (.seq (.reg [km 73 0,kq 74 (vM 73 17),kq 75 (we 74),kq 76 (.bin .neq (.t 75) (.c (.int .u8 0)))]) (.cond (.t 76) (.seq (.reg [kq 77 Ye,ku (wq 13 2 77),kq 3 (.mv (ki 2))]) .ret) .skip)) (.reg [km 78 0,kq 79 (vM 78 16),kq 80 (we 79),kq 81 (xi 80),kq 82 (wh 10 5),ku (wq 1 82 81),kq 6 (.mv (ki 20))])) (.seq (v9 84 31 2 83) (.cond (.t 83) (.seq (.reg (Wx 85 86 16 87 88 18 [kq 89 (wh 5 5),ku (wq 1 89 86),kq 90 (wh 6 5),ku (wq 1 90 88)])) (.reg (Wx 91 92 20 93 94 22 [kq 95 (wF 94 0),kq 96 (wh 8 5),ku (wq 1 96 92),kq 97 (wh 9 5),ku (wq 1 97 95)]))) (.seq (.reg (Wx 32 33 16 34 35 18 [kq 36 (wh 5 5),ku (wq 1 36 33),kq 37 (wh 6 5),ku (wq 1 37 35)])) (.seq (.reg [km 38 0,kq 39 (vM 38 20),kq 40 (we 39),kq 41 (xi 40),kq 42 (wh 7 5),ku (wq 1 42 41)]) (.seq (.reg [km 43 6,km 44 0,kq 45 (vM 44 21),kq 46 (we 45),kq 47 (xi 46),kq 48 (yA 43 47),km 6 48]) (.seq (.seq (.reg [kq 49 (wh 7 5),kq 50 (we 49),kq 51 (.bin .gtr (.t 50) (ki 15)),km 52 51,kg 53 (vr 0) 52 false,kg 54 (vM 53 21) 52 false,kg 55 (we 54) 52 false,kg 56 (.bin .gtr (.t 55) (.c (.int .u8 40))) 52 false,kq 57 (yq 52 56),km 58 57,kg 59 (vr 6) 58 false,kg 60 (vr 0) 58 false,kg 61 (xd 60) 58 false,kg 62 (.bin .gtr (.t 59) (.t 61)) 58 false,kq 63 (yq 58 62)]) (.cond (.t 63) (.seq (.reg [kq 64 Ye,ku (wq 13 2 64),kq 3 (.mv (ki 5))]) .ret) .skip)) (.reg [km 65 0,km 66 6,km 67 6,kq 68 (.slcS 1 (.t 65) (some (ki 24)) (some (.t 66)) (some (.t 67))),kq 69 (.call "roundhouse/wire.clone" [(.t 68)]),kq 70 (wh 11 5),ku (wq 1 70 69)]))))))))))) (.seq (.reg [km 98 0,km 99 6,km 100 0,kq 101 (xd 100),km 102 0,kq 103 (xd 102),kq 104 (.slcS 1 (.t 98) (some (.t 99)) (some (.t 101)) (some (.t 103))),kq 105 (.call "roundhouse/wire.clone" [(.t 104)]),kq 106 (wh 12 5),ku (wq 1 106 105)]) (.seq (.reg [kq 107 (ww 13 5),ku (wq 13 2 107),kq 3 wI]) .ret)))))))⟩
abbrev W3 a b:=(.ext a (.t b):IOp)
def zhe:IFunc:=⟨24,[.tmp 2,.cell 3 (some 13),.tmp 4],(.seq (.reg [kq 2 (.mv (.c (.pointer none))),kq 3 vu,kq 4 wI]) (.seq (.reg [km 8 0,kq 9 (.call "roundhouse/wire.Parse" [(.t 8)]),km 7 9,kq 10 (W3 0 7),kq 11 (W3 1 7),kq 5 vu,ku (wq 13 5 10),km 6 11]) (.seq (.seq (.reg [km 12 6,kq 13 (vt 12 0)]) (.cond (.t 13) (.seq (.dreg [kq 14 (ww 13 5),km 15 6,kq 2 (.mv (.c (.pointer none))),ku (wq 13 3 14),km 4 15] [[],[],[],[0,2],[1,3,0,2]]) .ret) .skip)) (.seq (.dreg [km 16 0,km 17 0,kq 18 (.call "roundhouse/wire.clone" [(.t 17)]),kq 19 (wh 9 5),kq 20 (we 19),kq 21 (.bld [(2,wD),(1,(.bool false))] [(0,1,(.t 16)),(1,1,(.t 18)),(2,1,(.t 20))]),kq 22 (vY 21),kq 23 (ww 13 5),km 2 22,ku (wq 13 3 23),kq 4 wI] [[],[],[1],[],[3],[0,2,1,4,3],[5,0,2,1,4,3],[],[6,5,0,2,1,4,3],[7,8,6,5,0,2,1,4,3],[9,7,8,6,5,0,2,1,4,3]]) .ret))))⟩
abbrev wG a:=(.nilc (.t a):IOp)
abbrev yh a b c d e f g h i:=km a b::km c d::kq e (wG c)::kq f (wh g e)::kq h (we f)::i
abbrev yk a b c d e f g:=km a b::kq c (wG a)::kq d (wh e c)::kq f (we d)::g
def zdM:IFunc:=⟨46,[],(.seq (.reg (yk 10 0 11 12 1 13 [km 14 1,kq 15 (.call "roundhouse/wire.get" [(.t 13),(.t 14),(ki 2)]),km 8 15])) (.seq (.seq (.reg [km 16 2,kq 17 (.bin .andNot (.t 16) (ki 1)),km 9 17]) (.block 0 (.loop (.seq (.seq (.reg [km 18 9,km 19 2,km 20 3,kq 21 (yA 19 20),kq 22 (xk 18 21)]) (wU 22 0)) (.seq (.block 1 (.dreg (yh 25 8 26 0 27 28 0 29 [km 30 9,kq 31 (.call "roundhouse/wire.pair" (x7 29 30)),km 32 0,kq 33 (wG 32),kq 34 (wh 1 33),kq 35 (we 34),km 36 9,kq 37 (.call "roundhouse/wire.pair" (x7 35 36)),kq 38 (.call "roundhouse/sum.Turn" [(.t 25),(.t 31),(.t 37)]),km 8 38]) [[],[],[1],[2,1],[3,2,1],[],[4,3,2,1,5],[],[7],[8,7],[9,8,7],[],[10,9,8,7,11,6,4,3,2,1,5],[0,6,4,3,2,1,5,12,10,9,8,7,11],[13,0,6,4,3,2,1,5,12,10,9,8,7,11]])) (WU 23 9 24 2)))))) (.reg (yk 39 0 40 41 1 42 [km 43 1,km 44 8,kq 45 (.call "roundhouse/wire.put" [(.t 42),(.t 43),(ki 2),(.t 44)])]))))⟩
def zdO:IFunc:=⟨23,[],(.seq (.reg (yk 6 0 7 8 2 9 [kq 10 (Wi 9)])) (.cond (.t 10) (.reg (yh 11 0 12 0 13 14 1 15 [kq 16 (vM 15 0),kq 17 (we 16),kq 18 (xi 17),kq 19 (.call "roundhouse/wire.sumPlace" [(.t 18)]),km 20 1,km 21 2,kq 22 (.call "(*roundhouse/wire.turner).turn" [(.t 11),(.t 19),(.t 20),(.t 21)])])) .skip))⟩
def zdN:IFunc:=⟨35,[.tmp 2],(.seq (.reg [kq 2 Ww]) (.seq (.seq (.reg (yk 3 0 4 5 1 6 [kq 7 (vM 6 0),kq 8 (we 7),kq 9 (xi 8),kq 10 (wF 9 2),km 11 10,kg 12 (vr 0) 11 true,kg 13 (wG 12) 11 true,kg 14 (wh 2 13) 11 true,kg 15 (we 14) 11 true,kg 16 (Wi 15) 11 true,kq 17 (wW 11 16),km 18 17,kg 19 (vr 0) 18 true,kg 20 (wG 19) 18 true,kg 21 (wh 1 20) 18 true,kg 22 (we 21) 18 true,kg 23 (.call "roundhouse/wire.get" [(.t 22),(ki 22),(ki 2)]) 18 true,kg 24 (wF 23 0) 18 true,kq 25 (wW 18 24)])) (.cond (.t 25) (.reg (yk 26 0 27 28 1 29 [kq 30 (.call "roundhouse/wire.put" [(.t 29),(ki 22),(ki 2),(ki 65535)])])) .skip)) (.seq (.reg (yk 31 0 32 33 1 34 [km 2 34])) .ret)))⟩
abbrev yp a b d e:=(.cond (.t a) (.seq (.reg [kq b (.mv (.c wD)),kq d (.mv (ki e))]) .ret) .skip:IC)
abbrev xe a b c d e f g h i:=(.reg [km a 0,kq b (.call "roundhouse/wire.begin" [(.t a)]),km c b,kq d (.ext 0 (.t c)),kq e (.ext 1 (.t c)),kq f (.ext 2 (.t c)),kq g vu,km h d,ku (wq 13 g e),km i f]:IC)
def zjH:IFunc:=⟨33,[.tmp 2,.tmp 3],(.seq (.reg [kq 2 Ww,kq 3 wI]) (.seq (xe 8 9 7 10 11 12 5 4 6) (.seq (.block 0 (.seq (.reg [km 14 6,kq 15 (vt 14 0),km 13 15]) (.cond (.t 13) (.seq (.reg [km 16 6,kq 2 Ww,km 3 16]) .ret) (.seq (.reg [kq 18 (wh 1 5),kq 19 (we 18),kq 20 (vq 19 2),km 17 20]) (yp 17 2 3 7))))) (.seq (.reg (yk 21 4 22 23 1 24 [kq 25 (vM 24 1),kq 26 (we 25),kq 27 (.bin .sub (.t 26) (.c (.int .u8 1))),kq 28 (vM 24 1),ku (wq 1 28 27)])) (.seq (.reg [km 29 4,kq 30 (.call "(*roundhouse/wire.turner).turn" [(.t 29),(ki 14),(ki 0),(ki 2)])]) (.seq (.reg [km 31 4,kq 32 (.call "(*roundhouse/wire.turner).done" [(.t 31)]),km 2 32,kq 3 wI]) .ret))))))⟩
def zjG:IFunc:=⟨64,[.tmp 8,.tmp 9],(.seq (.reg [kq 8 Ww,kq 9 wI]) (.seq (xe 16 17 15 18 19 20 11 10 12) (.seq (.block 0 (.seq (.reg [km 22 12,kq 23 (vt 22 0),km 21 23]) (.cond (.t 21) (.seq (.reg [km 24 12,kq 8 Ww,km 9 24]) .ret) (.seq (.reg [kq 26 (wh 0 11),kq 27 (we 26),kq 28 (wF 27 3),km 25 28]) (.cond (.t 25) (.seq (.reg [kq 8 Ww,kq 9 (.mv (ki 2))]) .ret) (.seq (.reg [km 30 2,kq 31 (.call "roundhouse/wire.within" [(.t 30),(ki 4294967295)]),kq 32 (Wi 31),km 33 32,kg 34 (vr 3) 33 false,kg 35 (.call "roundhouse/wire.within" [(.t 34),(ki 65535)]) 33 false,kg 36 (Wi 35) 33 false,kq 37 (yq 33 36),km 29 37]) (yp 29 8 9 14))))))) (.seq (.reg [kq 13 (.mv (ki 8)),kq 14 (.mv (ki 18))]) (.seq (.seq (.reg [km 38 1]) (.cond (.t 38) (.reg [kq 13 (.mv (ki 4)),kq 14 (.mv (ki 16))]) .skip)) (.seq (.reg (yk 39 10 40 41 1 42 [km 43 13,km 44 2,kq 45 (.call "roundhouse/wire.put" [(.t 42),(.t 43),(ki 4),(.t 44)])])) (.seq (.reg (yk 46 10 47 48 1 49 [km 50 14,km 51 3,kq 52 (.call "roundhouse/wire.put" [(.t 49),(.t 50),(ki 2),(.t 51)])])) (.seq (.reg [km 53 10,km 54 13,kq 55 (.call "(*roundhouse/wire.turner).turn" [(.t 53),(ki 14),(.t 54),(ki 4)])]) (.seq (.reg [km 56 10,km 57 13,kq 58 (.call "(*roundhouse/wire.turner).body" [(.t 56),(.t 57),(ki 4)])]) (.seq (.reg [km 59 10,km 60 14,kq 61 (.call "(*roundhouse/wire.turner).body" [(.t 59),(.t 60),(ki 2)])]) (.seq (.reg [km 62 10,kq 63 (.call "(*roundhouse/wire.turner).done" [(.t 62)]),km 8 63,kq 9 wI]) .ret)))))))))))⟩
def zfd:IFunc:=⟨84,[.tmp 8,.tmp 9],(.seq (.reg [kq 8 Ww,kq 9 wI]) (.seq (xe 15 16 14 17 18 19 11 10 12) (.seq (.seq (.reg [km 20 12,kq 21 (vt 20 0)]) (.cond (.t 21) (.seq (.reg [km 22 12,kq 8 Ww,km 9 22]) .ret) .skip)) (.seq (.seq (.reg [km 23 2,kq 24 (vt 23 1),km 25 24,kg 26 (vr 2) 25 true,kg 27 (vt 26 2) 25 true,kq 28 (wW 25 27),km 29 28,kg 30 (vr 2) 29 true,kg 31 (vt 30 4) 29 true,kq 32 (wW 29 31),km 33 32,kg 34 (vr 3) 33 false,kg 35 (vq 34 0) 33 false,kq 36 (yq 33 35),km 37 36,kg 38 (vr 3) 37 false,kg 39 (vr 2) 37 false,kg 40 (.bin .mul (ki 8) (.t 39)) 37 false,kg 41 (.bin .shr (.t 38) (.t 40)) 37 false,kg 42 (vt 41 0) 37 false,kq 43 (yq 37 42),km 44 43,kg 45 (vr 1) 44 false,kg 46 (vq 45 16) 44 false,kq 47 (yq 44 46),km 48 47,kg 49 (vr 1) 48 false,kg 50 (vr 0) 48 false,kg 51 (xd 50) 48 false,kg 52 (vr 2) 48 false,kg 53 (.bin .sub (.t 51) (.t 52)) 48 false,kg 54 (.bin .gtr (.t 49) (.t 53)) 48 false,kq 55 (yq 48 54)]) (yp 55 8 9 14)) (.seq (.seq (.reg [kq 56 (wh 0 11),kq 57 (we 56),kq 58 (.call "roundhouse/wire.sumPlace" [(.t 57)]),km 13 58]) (.seq (.reg [km 59 1,km 60 13,kq 61 (wN 60 2),kq 62 (xk 59 61),km 63 62,kg 64 (vr 1) 63 true,kg 65 (vr 2) 63 true,kg 66 (yA 64 65) 63 true,kg 67 (vr 13) 63 true,kg 68 (.bin .gtr (.t 66) (.t 67)) 63 true,kq 69 (wW 63 68)]) (yp 69 8 9 14))) (.seq (.reg (yk 70 10 71 72 1 73 [km 74 1,km 75 2,km 76 3,kq 77 (.call "roundhouse/wire.put" [(.t 73),(.t 74),(.t 75),(.t 76)])])) (.seq (.reg [km 78 10,km 79 1,km 80 2,kq 81 (.call "(*roundhouse/wire.turner).body" [(.t 78),(.t 79),(.t 80)])]) (.seq (.reg [km 82 10,kq 83 (.call "(*roundhouse/wire.turner).done" [(.t 82)]),km 8 83,kq 9 wI]) .ret))))))))⟩
def zax:IFunc:=⟨17,[.tmp 4],(.seq (.reg [kq 4 (.mv (wR 0))]) (.seq (.reg [km 6 1,kq 7 (.cvi .u64 (.t 6)),kq 8 (.bin .and (.t 7) (wR 63)),km 5 8]) (.seq (.reg [km 9 0,km 10 5,kq 11 (.bin .shl (.t 9) (.t 10)),km 12 0,km 13 5,kq 14 (.bin .sub (wR 64) (.t 13)),kq 15 (.bin .shr (.t 12) (.t 14)),kq 16 (Wh 11 15),km 4 16]) .ret)))⟩
def zcT:IFunc:=⟨13,[.tmp 4],(.seq (.reg [kq 4 (.mv (wR 0))]) (.seq (.reg [km 5 0,km 6 1,kq 7 (.bin .shl (.t 5) (.t 6)),km 8 0,km 9 1,kq 10 (.bin .sub (wR 64) (.t 9)),kq 11 (.bin .shr (.t 8) (.t 10)),kq 12 (Wh 7 11),km 4 12]) .ret))⟩
abbrev wy:=[[],[],[1],[2,1],[3,2,1],[4,3,2,1],[],[6],[7,6],[8,7,6],[5,4,3,2,1,9,8,7,6],[0,1,2,3,4,5,6,7,8,9,10],[11,0,1,2,3,4,5,6,7,8,9,10],[12,11,0,1,2,3,4,5,6,7,8,9,10]]
abbrev yU a b c d e f g h i j k:=[km a 0,kq b (wG a),kq c (wh d b),kq e (we c),kq f (.bin .xor (.t g) (.t e)),kq h (wG i),kq j (wh k h),ku (wq 1 j f)]
abbrev yV a b c d e:=[kq a (wG b),kq c (wh d a),ku (wq 1 c e)]
abbrev vp:=[[],[0],[1,0],[2,1,0],[],[4],[5,4],[6,5,4],[3,2,1,0,7,6,5,4],[0,1,2,3,4,5,6,7,8],[9,0,1,2,3,4,5,6,7,8],[10,9,0,1,2,3,4,5,6,7,8]]
def zei:IFunc:=⟨114,[],(.seq (.dreg (yk 2 0 3 4 0 5 (km 6 0::kq 7 (wG 6)::kq 8 (wh 1 7)::kq 9 (we 8)::kq 10 (yA 5 9)::(yV 11 2 12 0 10))) vp) (.seq (.dreg (yh 13 0 14 0 15 16 1 17 (kq 18 (.call "math/bits.RotateLeft64" [(.t 17),(ki 13)])::(yU 19 20 21 0 22 23 18 24 13 25 1))) wy) (.seq (.reg (yh 26 0 27 0 28 29 0 30 (kq 31 (.call "math/bits.RotateLeft64" [(.t 30),(ki 32)])::(yV 32 26 33 0 31)))) (.seq (.dreg (yk 34 0 35 36 2 37 (km 38 0::kq 39 (wG 38)::kq 40 (wh 3 39)::kq 41 (we 40)::kq 42 (yA 37 41)::(yV 43 34 44 2 42))) vp) (.seq (.dreg (yh 45 0 46 0 47 48 3 49 (kq 50 (.call "math/bits.RotateLeft64" [(.t 49),(ki 16)])::(yU 51 52 53 2 54 55 50 56 45 57 3))) wy) (.seq (.dreg (yk 58 0 59 60 0 61 (km 62 0::kq 63 (wG 62)::kq 64 (wh 3 63)::kq 65 (we 64)::kq 66 (yA 61 65)::(yV 67 58 68 0 66))) vp) (.seq (.dreg (yh 69 0 70 0 71 72 3 73 (kq 74 (.call "math/bits.RotateLeft64" [(.t 73),(ki 21)])::(yU 75 76 77 0 78 79 74 80 69 81 3))) wy) (.seq (.dreg (yk 82 0 83 84 2 85 (km 86 0::kq 87 (wG 86)::kq 88 (wh 1 87)::kq 89 (we 88)::kq 90 (yA 85 89)::(yV 91 82 92 2 90))) vp) (.seq (.dreg (yh 93 0 94 0 95 96 1 97 (kq 98 (.call "math/bits.RotateLeft64" [(.t 97),(ki 17)])::(yU 99 100 101 2 102 103 98 104 93 105 1))) wy) (.reg (yh 106 0 107 0 108 109 2 110 (kq 111 (.call "math/bits.RotateLeft64" [(.t 110),(ki 32)])::(yV 112 106 113 2 111)))))))))))))⟩
abbrev vg:=[[],[],[1],[2,1],[3,2,1],[],[5],[6,5],[7,6,5],[4,3,2,1,8,7,6,5],[0,1,2,3,4,5,6,7,8,9],[10,0,1,2,3,4,5,6,7,8,9],[11,10,0,1,2,3,4,5,6,7,8,9]]
def zdQ:IFunc:=⟨118,[],(.seq (.dreg (yh 2 0 3 0 4 5 0 6 (km 7 0::kq 8 (wG 7)::kq 9 (wh 1 8)::kq 10 (we 9)::kq 11 (yA 6 10)::(yV 12 2 13 0 11))) vg) (.seq (.dreg (yh 14 0 15 0 16 17 1 18 (kq 19 (.call "roundhouse/roundhouseref2.left" [(.t 18),(wR 13)])::(yU 20 21 22 0 23 24 19 25 14 26 1))) wy) (.seq (.reg (yh 27 0 28 0 29 30 0 31 (kq 32 (.call "roundhouse/roundhouseref2.left" [(.t 31),(wR 32)])::(yV 33 27 34 0 32)))) (.seq (.dreg (yh 35 0 36 0 37 38 2 39 (km 40 0::kq 41 (wG 40)::kq 42 (wh 3 41)::kq 43 (we 42)::kq 44 (yA 39 43)::(yV 45 35 46 2 44))) vg) (.seq (.dreg (yh 47 0 48 0 49 50 3 51 (kq 52 (.call "roundhouse/roundhouseref2.left" [(.t 51),(wR 16)])::(yU 53 54 55 2 56 57 52 58 47 59 3))) wy) (.seq (.dreg (yh 60 0 61 0 62 63 0 64 (km 65 0::kq 66 (wG 65)::kq 67 (wh 3 66)::kq 68 (we 67)::kq 69 (yA 64 68)::(yV 70 60 71 0 69))) vg) (.seq (.dreg (yh 72 0 73 0 74 75 3 76 (kq 77 (.call "roundhouse/roundhouseref2.left" [(.t 76),(wR 21)])::(yU 78 79 80 0 81 82 77 83 72 84 3))) wy) (.seq (.dreg (yh 85 0 86 0 87 88 2 89 (km 90 0::kq 91 (wG 90)::kq 92 (wh 1 91)::kq 93 (we 92)::kq 94 (yA 89 93)::(yV 95 85 96 2 94))) vg) (.seq (.dreg (yh 97 0 98 0 99 100 1 101 (kq 102 (.call "roundhouse/roundhouseref2.left" [(.t 101),(wR 17)])::(yU 103 104 105 2 106 107 102 108 97 109 1))) wy) (.reg (yh 110 0 111 0 112 113 2 114 (kq 115 (.call "roundhouse/roundhouseref2.left" [(.t 114),(wR 32)])::(yV 116 110 117 2 115)))))))))))))⟩
def zdP:IFunc:=⟨10,[],(.seq (.reg [km 4 1,kq 5 wI]) (.block 0 (.loop (.seq (.reg [kq 6 (xk 5 4)]) (.seq (wU 6 0) (.seq (.block 1 (.reg [km 7 0,kq 8 (.call "(*roundhouse/sip.state).round" [(.t 7)])])) (Wr 9 5)))))))⟩
abbrev WV a b:=(.bin .xor (.t a) (.t b):IOp)
def zeG:IFunc:=⟨22,[],(.seq (.reg (yk 4 0 5 6 3 7 (km 8 1::kq 9 (WV 7 8)::(yV 10 4 11 3 9)))) (.seq (.reg [km 12 0,kq 13 (.call "(*roundhouse/sip.state).rounds" [(.t 12),(ki 2)])]) (.reg (yk 14 0 15 16 0 17 (km 18 1::kq 19 (WV 17 18)::(yV 20 14 21 0 19))))))⟩
abbrev xw a:=(.call "(*roundhouse/roundhouseref2.state).round" [(.t a)]:IOp)
def zeH:IFunc:=⟨26,[],(.seq (.reg (yh 4 0 5 0 6 7 3 8 (km 9 1::kq 10 (WV 8 9)::(yV 11 4 12 3 10)))) (.seq (.reg [km 13 0,kq 14 (xw 13)]) (.seq (.reg [km 15 0,kq 16 (xw 15)]) (.reg (yh 17 0 18 0 19 20 0 21 (km 22 1::kq 23 (WV 21 22)::(yV 24 17 25 0 23)))))))⟩
def zej:IFunc:=⟨23,[.tmp 2],(.seq (.reg [kq 2 (.mv (wR 0))]) (.seq (.reg [kq 3 (.mv (wR 0))]) (.seq (.seq (.reg [km 5 0,kq 6 (xd 5),kq 7 (.mm false (.t 6) (ki 8)),kq 8 wI]) (.block 0 (.loop (.seq (.reg [kq 9 (xk 8 7)]) (.seq (wU 9 0) (.seq (.block 1 (.seq (.reg [km 10 8,km 4 10]) (.reg [km 11 3,km 12 0,km 13 4,kq 14 (WD 1 12 13),kq 15 (we 14),kq 16 (.cvi .u64 (.t 15)),km 17 4,kq 18 (.bin .mul (ki 8) (.t 17)),kq 19 (.bin .shl (.t 16) (.t 18)),kq 20 (Wh 11 19),km 3 20]))) (Wr 21 8))))))) (.seq (.reg [km 22 3,km 2 22]) .ret))))⟩
def zjQ:IFunc:=⟨23,[.tmp 2],(.seq (.reg [kq 2 (.mv (wR 0))]) (.seq (.reg [kq 3 (.mv (wR 0))]) (.seq (.seq (wH 4 0) (.block 0 (.loop (.seq (.seq (.reg [km 5 4,km 6 0,kq 7 (xd 6),kq 8 (xk 5 7)]) (wU 8 0)) (.seq (.block 1 (.reg [km 11 3,km 12 0,km 13 4,kq 14 (WD 1 12 13),kq 15 (we 14),kq 16 (.cvi .u64 (.t 15)),km 17 4,kq 18 (.cvi .u64 (.t 17)),kq 19 (.bin .mul (wR 8) (.t 18)),kq 20 (.bin .shl (.t 16) (.t 19)),kq 21 (Wh 11 20),km 3 21])) (WU 9 4 10 1)))))) (.seq (.reg [km 22 3,km 2 22]) .ret))))⟩
abbrev yY:=(.reg [kq 7 (wh 0 2),kq 8 (we 7),kq 9 (.bin .xor (.t 8) (wR 8317987319222330741)),kq 10 (wh 1 2),kq 11 (we 10),kq 12 (.bin .xor (.t 11) (wR 7237128888997146477)),kq 13 (wh 0 2),kq 14 (we 13),kq 15 (.bin .xor (.t 14) (wR 7816392313619706465)),kq 16 (wh 1 2),kq 17 (we 16),kq 18 (.bin .xor (.t 17) (wR 8387220255154660723)),kq 19 (.bld [(4,(.int .u64 0))] [(0,1,(.t 9)),(1,1,(.t 12)),(2,1,(.t 15)),(3,1,(.t 18))]),kq 20 (.box (.t 19)),km 5 20]:IC)
abbrev xN:=[[],[0],[1,0],[2,1,0],[],[4],[5,4],[6,5,4],[3,2,1,0,7,6,5,4],[],[9],[10,9],[11,10,9],[8,3,2,1,0,7,6,5,4,12,11,10,9],[],[14],[15,14],[16,15,14],[13,8,3,2,1,0,7,6,5,4,12,11,10,9,17,16,15,14],[18,13,8,3,2,1,0,7,6,5,4,12,11,10,9,17,16,15,14]]
def c_sip_Of:IFunc:=⟨69,[.tmp 4],(.seq (.reg [kq 2 (vY 0),kq 4 (.mv (wR 0))]) (.seq yY (.seq (.reg [km 21 1,km 6 21]) (.seq (.block 0 (.loop (.seq (.seq (.reg [km 22 6,kq 23 (xd 22),kq 24 (.bin .geq (.t 23) (ki 8))]) (wU 24 0)) (.block 1 (.seq (.reg [km 25 5,km 26 6,kq 27 (.slcS 1 (.t 26) none (some (ki 8)) none),kq 28 (.call "roundhouse/sip.number[[]byte]" [(.t 27)]),kq 29 (.call "(*roundhouse/sip.state).take" (x7 25 28))]) (.reg [km 30 6,kq 31 (.slcS 1 (.t 30) (some (ki 8)) none none),km 6 31])))))) (.seq (.reg [km 32 5,km 33 6,kq 34 (.call "roundhouse/sip.number[[]byte]" [(.t 33)]),km 35 1,kq 36 (xd 35),kq 37 (.cvi .u64 (.t 36)),kq 38 (.bin .shl (.t 37) (wR 56)),kq 39 (Wh 34 38),kq 40 (.call "(*roundhouse/sip.state).take" (x7 32 39))]) (.seq (.reg (yk 41 5 42 43 2 44 (kq 45 (.bin .xor (.t 44) (wR 255))::(yV 46 41 47 2 45)))) (.seq (.reg [km 48 5,kq 49 (.call "(*roundhouse/sip.state).rounds" [(.t 48),(ki 4)])]) (.seq (.dreg (yk 50 5 51 52 0 53 [km 54 5,kq 55 (wG 54),kq 56 (wh 1 55),kq 57 (we 56),kq 58 (WV 53 57),km 59 5,kq 60 (wG 59),kq 61 (wh 2 60),kq 62 (we 61),kq 63 (WV 58 62),km 64 5,kq 65 (wG 64),kq 66 (wh 3 65),kq 67 (we 66),kq 68 (WV 63 67),km 4 68]) xN) .ret))))))))⟩
def c_ref2_Of:IFunc:=⟨83,[.tmp 4],(.seq (.reg [kq 2 (vY 0),kq 4 (.mv (wR 0))]) (.seq yY (.seq (wH 6 0) (.seq (.block 0 (.loop (.seq (.seq (.reg [km 21 6,kq 22 (wN 21 8),km 23 1,kq 24 (xd 23),kq 25 (.bin .leq (.t 22) (.t 24))]) (wU 25 0)) (.seq (.block 1 (.reg [km 28 5,km 29 1,km 30 6,km 31 6,kq 32 (wN 31 8),kq 33 (.slcS 1 (.t 29) (some (.t 30)) (some (.t 32)) none),kq 34 (.call "roundhouse/roundhouseref2.low" [(.t 33)]),kq 35 (.call "(*roundhouse/roundhouseref2.state).eat" (x7 28 34))])) (WU 26 6 27 8))))) (.seq (.reg [km 36 5,km 37 1,km 38 6,kq 39 (.slcS 1 (.t 37) (some (.t 38)) none none),kq 40 (.call "roundhouse/roundhouseref2.low" [(.t 39)]),km 41 1,kq 42 (xd 41),kq 43 (.bin .and (.t 42) (ki 255)),kq 44 (.cvi .u64 (.t 43)),kq 45 (.bin .shl (.t 44) (wR 56)),kq 46 (Wh 40 45),kq 47 (.call "(*roundhouse/roundhouseref2.state).eat" (x7 36 46))]) (.seq (.reg (yh 48 5 49 5 50 51 2 52 (kq 53 (.bin .xor (.t 52) (wR 255))::(yV 54 48 55 2 53)))) (.seq (.reg [km 56 5,kq 57 (xw 56)]) (.seq (.reg [km 58 5,kq 59 (xw 58)]) (.seq (.reg [km 60 5,kq 61 (xw 60)]) (.seq (.reg [km 62 5,kq 63 (xw 62)]) (.seq (.dreg (yk 64 5 65 66 0 67 [km 68 5,kq 69 (wG 68),kq 70 (wh 1 69),kq 71 (we 70),kq 72 (WV 67 71),km 73 5,kq 74 (wG 73),kq 75 (wh 2 74),kq 76 (we 75),kq 77 (WV 72 76),km 78 5,kq 79 (wG 78),kq 80 (wh 3 79),kq 81 (we 80),kq 82 (WV 77 81),km 4 82]) xN) .ret)))))))))))⟩
abbrev xl a b:=(.app [(1,(.int .u8 0))] 1 1 (.t a) (.t b):IOp)
def ziH:IFunc:=⟨36,[.tmp 4],(.seq (.reg [kq 2 (vY 0),kq 4 (.mv (wR 0))]) (.seq (.reg [km 9 1,kq 10 (xd 9),kq 11 (.bin .mul (ki 8) (.t 10)),kq 12 (.mks [(1,(.int .u8 0))] 1 1 (ki 0) (.t 11)),km 5 12]) (.seq (.seq (.reg [km 13 1,kq 14 (xd 13),kq 15 wI]) (.block 0 (.loop (.seq (.reg [kq 16 (xk 15 14)]) (.seq (wU 16 0) (.seq (.block 1 (.seq (.reg [kq 17 (WD 1 13 15),kq 18 (we 17),km 7 18]) (.seq (wH 19 0) (.block 2 (.loop (.seq (.reg [kq 20 (vq 19 8)]) (.seq (wU 20 2) (.seq (.block 3 (.seq (.reg [km 21 19,km 8 21]) (.reg [km 22 5,km 23 7,kq 24 (.cvi .u64 (.t 23)),km 25 8,kq 26 (.bin .mul (ki 8) (.t 25)),kq 27 (.bin .shr (.t 24) (.t 26)),kq 28 (.cvi .u8 (.t 27)),kq 29 (.bsl [(1,(.int .u8 0))] 1 1 [(0,1,(.t 28))]),kq 30 (xl 22 29),km 5 30]))) (Wr 31 19))))))))) (Wr 32 15))))))) (.seq (.reg [kq 33 (ww 2 2),km 34 5,kq 35 (.call "roundhouse/sip.Of" (x7 33 34)),km 4 35]) .ret))))⟩
def zho:IFunc:=⟨34,[.tmp 4],(.seq (.reg [kq 2 (vY 0),kq 4 (.mv (wR 0))]) (.seq (.reg [kq 5 Ww]) (.seq (.seq (wH 6 0) (.block 0 (.loop (.seq (.seq (.reg [km 8 6,km 9 1,kq 10 (xd 9),kq 11 (xk 8 10)]) (wU 11 0)) (.seq (.block 1 (.seq (wH 7 0) (.block 2 (.loop (.seq (.seq (.reg [km 14 7,kq 15 (vq 14 8)]) (wU 15 2)) (.seq (.block 3 (.reg [km 18 5,km 19 1,km 20 6,kq 21 (WD 1 19 20),kq 22 (we 21),kq 23 (.cvi .u64 (.t 22)),km 24 7,kq 25 (.cvi .u64 (.t 24)),kq 26 (.bin .mul (wR 8) (.t 25)),kq 27 (.bin .shr (.t 23) (.t 26)),kq 28 (.cvi .u8 (.t 27)),kq 29 (.bsl [(1,(.int .u8 0))] 1 1 [(0,1,(.t 28))]),kq 30 (xl 18 29),km 5 30])) (WU 16 7 17 1))))))) (WU 12 6 13 1)))))) (.seq (.reg [kq 31 (ww 2 2),km 32 5,kq 33 (.call "roundhouse/roundhouseref2.Of" (x7 31 32)),km 4 33]) .ret))))⟩
abbrev WL:=(.int .u64 0:Value)
def zjM:IFunc:=⟨25,[.cell 8 (some 330),.tmp 9],(.seq (.reg [kq 6 (vY 2),kq 7 (vY 3),kq 8 (.new kA),kq 9 wI]) (.seq (.seq (.reg [km 10 0,kq 11 (.call "roundhouse/roundhouseref6.out" [(.t 10),(ki 0),(ki 4294967295)]),km 12 11,kg 13 (vr 1) 12 false,kg 14 (.call "roundhouse/roundhouseref6.out" [(.t 13),(ki 0),(ki 65535)]) 12 false,kq 15 (yq 12 14)]) (.cond (.t 15) (.seq (.reg [kq 16 (.bld kA []),ku (wq 330 8 16),kq 9 (.mv (ki 14))]) .ret) .skip)) (.seq (.reg [km 17 0,km 18 1,kq 19 (.bld [(2,WL)] []),kq 20 (ww 2 6),kq 21 (ww 2 7),kq 22 (.bsl [(2,WL)] 2 3 [(0,2,(.t 19)),(2,2,(.t 20)),(4,2,(.t 21))]),kq 23 (.call "roundhouse/roundhouseref5.Ring" [(ki 1),(.t 22)]),kq 24 (.bld kA [(1,1,(.t 17)),(2,1,(.t 18)),(323,7,(.t 23))]),ku (wq 330 8 24),kq 9 wI]) .ret)))⟩
abbrev Wo a b c d:=(.iadA a b (.t c) (.t d):IOp)
def zhl:IFunc:=⟨85,[.cell 4 (some 330),.tmp 5],(.seq (.reg [kq 2 (vY 0),kq 3 (vY 1),kq 4 (.new kA),kq 5 wI]) (.seq (.seq (.reg [kq 8 (ww 7 3),kq 9 (.call "roundhouse/roundhouseref6.Check" [(.t 8)]),km 6 9]) (.seq (.reg [km 10 6,kq 11 (vt 10 0)]) (.cond (.t 11) (.seq (.reg [kq 12 (.bld kA []),km 13 6,ku (wq 330 4 12),km 5 13]) .ret) .skip))) (.seq (.seq (.reg [kq 14 (ww 330 2),kq 15 (ww 7 3),kq 16 (.call "roundhouse/roundhouseref6.bad" (x7 14 15))]) (.cond (.t 16) (.seq (.reg [kq 17 (.bld kA []),ku (wq 330 4 17),kq 5 (.mv (ki 12))]) .ret) .skip)) (.seq (.seq (.dreg [kq 18 (wh 0 3),kq 19 (we 18),kq 20 (wF 19 5),km 21 20,kg 22 (wh 323 2) 21 true,kg 23 (wh 0 22) 21 true,kg 24 (we 23) 21 true,kg 25 (wh 1 3) 21 true,kg 26 (we 25) 21 true,kg 27 (wh 3 2) 21 true,kg 28 (Wo 64 5 27 26) 21 true,kg 29 (wh 4 28) 21 true,kg 30 (we 29) 21 true,kg 31 (wN 30 3) 21 true,kg 32 (xk 24 31) 21 true,kq 33 (wW 21 32)] [[],[0],[1,0],[2,1,0],[3,2,1,0],[4,3,2,1,0],[5,4,3,2,1,0],[3,2,1,0],[7,3,2,1,0],[3,2,1,0],[9,3,2,1,0,8,7],[10,9,3,2,1,0,8,7],[11,10,9,3,2,1,0,8,7],[12,11,10,9,3,2,1,0,8,7],[6,5,4,3,2,1,0,13,12,11,10,9,8,7],[3,2,1,0,14,6,5,4,13,12,11,10,9,8,7]]) (.cond (.t 33) (.seq (.reg [kq 34 (.bld kA []),ku (wq 330 4 34),kq 5 (.mv (ki 13))]) .ret) .skip)) (.seq (.reg [kq 35 (wh 0 2),kq 36 (we 35),kq 37 (wN 36 1),kq 38 (wh 0 2),ku (wq 1 38 37)]) (.seq (.reg [kq 39 (wh 1 3),kq 40 (we 39),kq 41 (wh 3 2),kq 42 (Wo 64 5 41 40),kq 43 (ww 5 42),kq 7 (.new [(5,wE)]),ku (wq 5 7 43)]) (.seq (.seq (.reg [kq 44 (wh 0 3),kq 45 (we 44)]) (.block 0 (.seq (v9 47 45 1 46) (.cond (.t 46) (.reg [kq 48 (wh 2 3),kq 49 (we 48),kq 50 (wh 3 3),kq 51 (we 50),kq 52 (wh 4 3),kq 53 (we 52),kq 54 (.bld [(5,wE)] [(0,1,(ki 1)),(1,1,(.t 49)),(2,1,(.t 51)),(3,1,(.t 53))]),ku (wq 5 7 54)]) (.seq (v9 56 45 2 55) (.cond (.t 55) (.reg [kq 57 (wh 0 7),ku (.st 1 (.t 57) (ki 2))]) (.seq (v9 59 45 3 58) (.cond (.t 58) (.reg [kq 60 (wh 0 7),ku (.st 1 (.t 60) (ki 3))]) (.seq (v9 62 45 4 61) (.cond (.t 61) (.dreg [kq 63 (wh 323 2),kq 64 (wh 0 63),kq 65 (we 64),kq 66 (wh 0 7),ku (.st 1 (.t 66) (ki 4)),kq 67 (wh 4 7),ku (wq 1 67 65)] [[],[0],[1,0],[],[3],[0,1,2,3,4],[5,0,1,2,3,4]]) (.seq (v9 69 45 5 68) (.cond (.t 68) (.reg [kq 70 (.bld [(5,wE)] []),ku (wq 5 7 70)]) (.seq (v9 72 45 6 71) (.cond (.t 71) (.reg [kq 73 (wh 323 2),kq 74 (ww 7 73),kq 75 (wh 5 3),kq 76 (ww 2 75),kq 77 (.call "roundhouse/roundhouseref5.Next" (x7 74 76)),kq 78 (wh 323 2),ku (wq 7 78 77)]) .skip)))))))))))))) (.seq (.reg [kq 79 (wh 1 3),kq 80 (we 79),kq 81 (ww 5 7),kq 82 (wh 3 2),kq 83 (Wo 64 5 82 80),ku (wq 5 83 81)]) (.seq (.reg [kq 84 (ww 330 2),ku (wq 330 4 84),kq 5 wI]) .ret)))))))))⟩
def zhk:IFunc:=⟨72,[.tmp 2],(.seq (.reg [kq 1 (vY 0),kq 2 wI]) (.seq (.dreg [kq 5 (wh 0 1),kq 6 (we 5),kq 7 (wF 6 1),kq 8 (wh 0 1),kq 9 (we 8),kq 10 (wF 9 6),km 3 7,km 4 10] [[],[0],[1,0],[],[3],[4,3],[2,1,0],[5,4,3,6,2,1,0]]) (.seq (.block 0 (.seq (.reg [kq 12 (wh 0 1),kq 13 (we 12),kq 14 (.call "roundhouse/roundhouseref6.out" [(.t 13),(ki 1),(ki 6)]),km 11 14]) (.cond (.t 11) (Wv 2) (.seq (.reg [kq 16 (wh 1 1),kq 17 (we 16),kq 18 (.call "roundhouse/roundhouseref6.out" [(.t 17),(ki 0),(ki 63)]),km 19 18,kg 20 (vr 4) 19 false,kg 21 (vr 20) 19 false,kg 22 (wh 1 1) 21 true,kg 23 (we 22) 21 true,kg 24 (vt 23 0) 21 true,kg 25 (wW 21 24) 19 false,kq 26 (yq 19 25),km 15 26]) (.cond (.t 15) (Wv 11) (.seq (.reg [km 28 3,km 29 28,kg 30 (wh 2 1) 29 true,kg 31 (we 30) 29 true,kg 32 (.call "roundhouse/roundhouseref6.out" [(.t 31),(ki 0),(ki 4294967295)]) 29 true,kg 33 (vr 32) 29 true,kg 34 (wh 3 1) 33 false,kg 35 (we 34) 33 false,kg 36 (.call "roundhouse/roundhouseref6.out" [(.t 35),(ki 0),(ki 65535)]) 33 false,kg 37 (yq 33 36) 29 true,kg 38 (vr 37) 29 true,kg 39 (wh 4 1) 38 false,kg 40 (we 39) 38 false,kg 41 (.call "roundhouse/roundhouseref6.out" [(.t 40),(ki 1),(ki 8)]) 38 false,kg 42 (yq 38 41) 29 true,kq 43 (wW 29 42),km 27 43]) (.cond (.t 27) (Wv 14) (.seq (.reg [km 45 3,kq 46 (Wi 45),km 47 46,kg 48 (wh 2 1) 47 true,kg 49 (we 48) 47 true,kg 50 (vt 49 0) 47 true,kg 51 (vr 50) 47 true,kg 52 (wh 3 1) 51 false,kg 53 (we 52) 51 false,kg 54 (vt 53 0) 51 false,kg 55 (yq 51 54) 47 true,kg 56 (vr 55) 47 true,kg 57 (wh 4 1) 56 false,kg 58 (we 57) 56 false,kg 59 (vt 58 0) 56 false,kg 60 (yq 56 59) 47 true,kq 61 (wW 47 60),km 62 61,kg 63 (vr 4) 62 false,kg 64 (Wi 63) 62 false,kg 65 (vr 64) 62 false,kg 66 (wh 5 1) 65 true,kg 67 (ww 2 66) 65 true,kg 68 (.bld [(2,WL)] []) 65 true,kg 69 (.eqa true [(2,.i)] (.t 67) (.t 68)) 65 true,kg 70 (wW 65 69) 62 false,kq 71 (yq 62 70),km 44 71]) (.cond (.t 44) (Wv 14) .skip))))))))) (Wv 0))))⟩
def zhj:IFunc:=⟨16,[.tmp 2],(.seq (.reg [kq 1 (vY 0),kq 2 (.mv kF)]) (.seq (.reg [kq 3 (wh 0 1),kq 4 (we 3),kq 5 (wF 4 1),km 6 5,kg 7 (wh 0 1) 6 false,kg 8 (we 7) 6 false,kg 9 (wF 8 2) 6 false,kq 10 (yq 6 9),km 11 10,kg 12 (wh 0 1) 11 false,kg 13 (we 12) 11 false,kg 14 (wF 13 3) 11 false,kq 15 (yq 11 14),km 2 15]) .ret))⟩
def zjK:IFunc:=⟨15,[.tmp 6],(.seq (W7 6) (.seq (.reg [km 7 0,km 8 1,kq 9 (xk 7 8),km 10 9,kg 11 (vr 0) 10 false,kg 12 (vr 2) 10 false,kg 13 (.bin .gtr (.t 11) (.t 12)) 10 false,kq 14 (yq 10 13),km 6 14]) .ret))⟩
def zjL:IFunc:=⟨43,[.tmp 4],(.seq (.reg [kq 2 (vY 0),kq 3 (vY 1),kq 4 (.mv kF)]) (.seq (.reg [kq 6 (wh 1 3),kq 7 (we 6),kq 8 (wh 3 2),kq 9 (Wo 64 5 8 7),kq 10 (wh 0 9),kq 11 (we 10),km 5 11]) (.seq (.seq (.reg [kq 12 (wh 0 3),kq 13 (we 12)]) (.block 0 (.seq (v9 15 13 1 14) (.cond (.t 14) (.seq (.reg [km 16 5,kq 17 (vt 16 0),km 18 17,kg 19 (ww 330 2) 18 false,kg 20 (wh 2 3) 18 false,kg 21 (we 20) 18 false,kg 22 (wh 3 3) 18 false,kg 23 (we 22) 18 false,kg 24 (.call "roundhouse/roundhouseref6.Held" [(.t 19),(.t 21),(.t 23)]) 18 false,kq 25 (yq 18 24),km 4 25]) .ret) (.seq (.seq (v9 27 13 2 26) (.cond (.t 26) .skip (v9 28 13 4 26))) (.cond (.t 26) (.seq (.reg [km 29 5,kq 30 (vt 29 1),km 31 30,kg 32 (vr 5) 31 true,kg 33 (vt 32 3) 31 true,kq 34 (wW 31 33),km 4 34]) .ret) (.seq (v9 36 13 3 35) (.cond (.t 35) (.seq (.reg [km 37 5,kq 38 (vt 37 2),km 4 38]) .ret) (.seq (v9 40 13 5 39) (.cond (.t 39) (.seq (.reg [km 41 5,kq 42 (vt 41 4),km 4 42]) .ret) .skip)))))))))) (.seq (W7 4) .ret))))⟩
def ziK:IFunc:=⟨42,[.tmp 6],(.seq (.reg [kq 3 (vY 0),kq 6 (.mv kF)]) (.seq (.seq (wH 7 0) (.block 0 (.loop (.seq (.seq (.reg [km 9 7,kq 10 (vq 9 64)]) (wU 10 0)) (.seq (.block 1 (.seq (.reg [km 13 7,kq 14 (wh 3 3),kq 15 (Wo 64 5 14 13),kq 16 (ww 5 15),kq 8 (.new [(5,wE)]),ku (wq 5 8 16)]) (.seq (.reg [kq 17 (wh 0 8),kq 18 (we 17),kq 19 (vt 18 0),km 20 19,kg 21 (wh 1 8) 20 true,kg 22 (we 21) 20 true,kg 23 (vr 1) 20 true,kg 24 (.bin .eql (.t 22) (.t 23)) 20 true,kq 25 (wW 20 24),km 26 25,kg 27 (wh 2 8) 26 true,kg 28 (we 27) 26 true,kg 29 (vr 2) 26 true,kg 30 (.bin .eql (.t 28) (.t 29)) 26 true,kq 31 (wW 26 30)]) (.cond (.t 31) (.seq (.reg [kq 6 (.mv kT)]) .ret) .skip)))) (WU 11 7 12 1)))))) (.seq (.reg [kq 32 (wh 1 3),kq 33 (we 32),km 34 1,kq 35 (.bin .eql (.t 33) (.t 34)),km 36 35,kg 37 (wh 2 3) 36 true,kg 38 (we 37) 36 true,kg 39 (vr 2) 36 true,kg 40 (.bin .eql (.t 38) (.t 39)) 36 true,kq 41 (wW 36 40),km 6 41]) .ret)))⟩
def ziO:IFunc:=⟨31,[.cell 4 (some 7)],(.seq (.reg [kq 4 (.new [(1,wE),(6,WL)])]) (.seq (.reg [kq 5 (.new [(6,WL)])]) (.seq (.seq (wH 6 0) (.block 0 (.loop (.seq (.seq (.reg [km 7 6,km 8 1,kq 9 (xd 8),kq 10 (xk 7 9),km 11 10,kg 12 (vr 6) 11 true,kg 13 (vq 12 3) 11 true,kq 14 (wW 11 13)]) (wU 14 0)) (.seq (.block 1 (.reg [km 17 6,km 18 1,km 19 6,kq 20 (WD 2 18 19),kq 21 (ww 2 20),kq 22 (Wo 3 2 5 17),ku (wq 2 22 21)])) (WU 15 6 16 1)))))) (.seq (.reg [km 23 0,kq 24 (.iadA 3 2 (.t 5) (ki 0)),kq 25 (ww 2 24),kq 26 (.iadA 3 2 (.t 5) (ki 1)),kq 27 (ww 2 26),kq 28 (.iadA 3 2 (.t 5) (ki 2)),kq 29 (ww 2 28),kq 30 (.bld [(1,wE),(6,WL)] [(0,1,(.t 23)),(1,2,(.t 25)),(3,2,(.t 27)),(5,2,(.t 29))]),ku (wq 7 4 30)]) .ret))))⟩
def ziP:IFunc:=⟨14,[.cell 4 (some 7)],(.seq (.reg [kq 2 (vY 0),kq 3 (vY 1),kq 4 (.new [(1,wE),(6,WL)])]) (.seq (.reg [kq 5 (wh 0 2),kq 6 (we 5),kq 7 (wN 6 1),kq 8 (wh 3 2),kq 9 (ww 2 8),kq 10 (wh 5 2),kq 11 (ww 2 10),kq 12 (ww 2 3),kq 13 (.bld [(1,wE),(6,WL)] [(0,1,(.t 7)),(1,2,(.t 9)),(3,2,(.t 11)),(5,2,(.t 12))]),ku (wq 7 4 13)]) .ret))⟩
def zjU:IFunc:=⟨10,[.cell 2 (some 2)],(.seq (.reg [kq 2 (.new [(2,WL)])]) (.seq (.reg [km 3 0,kq 4 (.cvi .u64 (.t 3)),kq 5 (.bin .mul (.t 4) (wR 11400714819323198485)),km 6 0,kq 7 (.cvi .u64 (.t 6)),kq 8 (.bin .xor (.t 7) (wR 19088743)),kq 9 (.bld [(2,WL)] [(0,1,(.t 5)),(1,1,(.t 8))]),ku (wq 2 2 9)]) .ret))⟩
abbrev Wj a b c:=(.seq (.reg [km a 4,kq b (.bld kC [(0,1,(ki c)),(1,1,(.t a))]),ku (wq 7 2 b)]) .ret:IC)
def zht:IFunc:=⟨53,[.cell 2 (some 7)],(.seq (.reg [kq 2 (.new kC)]) (.seq (.reg [km 5 0,kq 6 (.call "roundhouse/roundhouselaw6.within" [(.t 5),(ki 1125899906842624)]),km 3 6]) (.seq (.reg [km 7 3,kq 8 (.bin .quo (.t 7) (ki 8)),kq 9 (.bin .rem (.t 8) (ki 6)),km 4 9]) (.seq (.seq (.reg [km 10 3,kq 11 (.bin .quo (.t 10) (ki 48)),kq 12 (.bin .rem (.t 11) (ki 29)),kq 13 (wF 12 0)]) (.cond (.t 13) (.reg [km 14 3,kq 15 (.bin .quo (.t 14) (ki 48)),kq 16 (.bin .rem (.t 15) (ki 66)),km 4 16]) .skip)) (.seq (.seq (.reg [km 17 3,kq 18 (.bin .rem (.t 17) (ki 8))]) (.block 0 (.seq (.seq (v9 20 18 0 19) (.cond (.t 19) .skip (v9 21 18 1 19))) (.cond (.t 19) (.seq (.reg [km 22 4,km 23 3,kq 24 (.bin .quo (.t 23) (ki 400)),kq 25 (.bin .rem (.t 24) (ki 5)),km 26 3,kq 27 (.bin .quo (.t 26) (ki 2000)),kq 28 (.bin .rem (.t 27) (ki 3)),km 29 3,kq 30 (.bin .quo (.t 29) (ki 6000)),kq 31 (.bin .rem (.t 30) (ki 8)),kq 32 (.bin .add (ki 1) (.t 31)),kq 33 (.bld kC [(0,1,(ki 1)),(1,1,(.t 22)),(2,1,(.t 25)),(3,1,(.t 28)),(4,1,(.t 32))]),ku (wq 7 2 33)]) .ret) (.seq (v9 35 18 2 34) (.cond (.t 34) (Wj 36 37 2) (.seq (v9 39 18 3 38) (.cond (.t 38) (Wj 40 41 3) (.seq (v9 43 18 4 42) (.cond (.t 42) (Wj 44 45 4) (.seq (v9 47 18 5 46) (.cond (.t 46) (Wj 48 49 5) .skip)))))))))))) (.seq (.reg [km 50 3,kq 51 (.call "roundhouse/roundhouselaw5.Key" [(.t 50)]),kq 52 (.bld kC [(0,1,(ki 6)),(5,2,(.t 51))]),ku (wq 7 2 52)]) .ret))))))⟩
abbrev xP:=(.seq (wH 4 0) (.seq (.reg [km 6 0,km 7 1,kq 8 (.bin .rem (.t 6) (.t 7)),km 5 8]) (.seq (.seq (.reg [km 9 5,kq 10 (vq 9 0)]) (.cond (.t 10) (.reg [km 11 5,km 12 1,kq 13 (yA 11 12),km 5 13]) .skip)) (.seq (.reg [km 14 5,km 4 14]) .ret))):IC)
def zgu:IFunc:=⟨15,[.tmp 4],xP⟩
def ziW:IFunc:=⟨41,[.cell 4 (some 330)],(.seq (.reg [kq 4 (.new kA)]) (.seq (.reg [kq 11 (.call "roundhouse/roundhouselaw5.Key" [(ki 1)]),kq 12 (.call "roundhouse/roundhouselaw5.Key" [(ki 2)]),kq 13 (.call "roundhouse/roundhouseref6.New" [(ki 10),(ki 80),(.t 11),(.t 12)]),km 10 13,kq 14 (W3 0 10),kq 15 (W3 1 10),kq 5 (.new kA),ku (wq 330 5 14),km 6 15]) (.seq (.seq (wH 7 0) (.block 0 (.loop (.seq (.seq (.reg [km 16 7,km 17 0,kq 18 (xd 17),kq 19 (xk 16 18),km 20 19,kg 21 (vr 7) 20 true,kg 22 (vr 1) 20 true,kg 23 (xk 21 22) 20 true,kq 24 (wW 20 23)]) (wU 24 0)) (.seq (.block 1 (.seq (.dreg [kq 28 (ww 330 5),km 29 0,km 30 7,kq 31 (WD 1 29 30),kq 32 (we 31),kq 33 (.call "roundhouse/roundhouselaw6.Entry" [(.t 32)]),kq 34 (.call "roundhouse/roundhouseref6.Apply" (x7 28 33)),km 27 34,kq 35 (W3 0 27),kq 36 (W3 1 27),kq 8 (.new kA),ku (wq 330 8 35),km 9 36] [[],[],[],[1,2],[3,1,2],[4,3,1,2],[0,5,4,3,1,2],[6,0,5,4,3,1,2],[7,6,0,5,4,3,1,2],[7,6,0,5,4,3,1,2],[],[10,8,7,6,0,5,4,3,1,2],[9,7,6,0,5,4,3,1,2,11,10,8]]) (.seq (.reg [km 37 9,kq 38 (wF 37 0)]) (.cond (.t 38) (.reg [kq 39 (ww 330 8),ku (wq 330 5 39)]) .skip)))) (WU 25 7 26 1)))))) (.seq (.reg [kq 40 (ww 330 5),ku (wq 330 4 40)]) .ret))))⟩
def zfe:IFunc:=⟨11,[.tmp 4],(.seq (wH 4 0) (.seq (.reg [kq 5 (.bld [(2,WL)] []),km 6 1,kq 7 (.call "roundhouse/sip.Words" (x7 5 6)),km 8 0,kq 9 (.bin .rem (.t 7) (.t 8)),kq 10 (xi 9),km 4 10]) .ret))⟩
abbrev yM:=(.block 4 (.loop (.seq (.seq (.reg [km 52 8,kq 53 (.bin .gtr (.t 52) (ki 0))]) (wU 53 4)) (.block 5 (.seq (.reg [km 54 5,kq 55 (.lenS (.t 54)),kq 56 wI]) (.block 6 (.loop (.seq (.reg [kq 57 (.bin .lss (.t 56) (.t 55))]) (.seq (wU 57 6) (.seq (.block 7 (.seq (.reg [km 58 56,km 9 58]) (.seq (.reg [km 59 5,km 60 9,kq 61 (.iadS 4 (.t 59) (.t 60)),kq 62 (wh 3 61),kq 63 (we 62),kq 64 wI]) (.block 8 (.loop (.seq (.reg [kq 65 (.bin .lss (.t 64) (.t 63))]) (.seq (wU 65 8) (.seq (.block 9 (.seq (.seq (.reg [km 66 8,kq 67 (wF 66 0)]) (.cond (.t 67) (.exit 4) .skip)) (.seq (.reg [kq 68 (ww 127 3),kq 10 (.new [(127,wE)]),ku (wq 127 10 68)]) (.seq (.block 10 (.loop (.seq (.seq (.reg [km 69 5,km 70 9,kq 71 (.iadS 4 (.t 69) (.t 70)),kq 72 (wh 1 71),kq 73 (we 72),kq 74 (.iadA 127 1 (.t 3) (.t 73)),kq 75 (we 74),kq 76 (.bin .neq (.t 75) (ki (-1)))]) (wU 76 10)) (.block 11 (.dreg [km 77 5,km 78 9,km 79 5,km 80 9,kq 81 (.iadS 4 (.t 79) (.t 80)),kq 82 (wh 1 81),kq 83 (we 82),km 84 5,km 85 9,kq 86 (.iadS 4 (.t 84) (.t 85)),kq 87 (wh 2 86),kq 88 (we 87),kq 89 (.bin .add (.t 83) (.t 88)),kq 90 (.bin .rem (.t 89) (ki 127)),kq 91 (.iadS 4 (.t 77) (.t 78)),kq 92 (wh 1 91),ku (wq 1 92 90)] [[],[],[],[],[2,3],[4,2,3],[5,4,2,3],[],[],[7,8],[9,7,8],[10,9,7,8],[6,5,4,2,3,11,10,9,7,8],[12,6,5,4,2,3,11,10,9,7,8],[0,1,2,3,4,5,6,7,8,9,10,11,12,13],[14,0,1,2,3,4,5,6,7,8,9,10,11,12,13],[15,14,0,1,2,3,4,5,6,7,8,9,10,11,12,13]]))))) (.seq (.dreg [km 93 5,km 94 9,kq 95 (.iadS 4 (.t 93) (.t 94)),kq 96 (wh 1 95),kq 97 (we 96),km 98 5,km 99 9,kq 100 (.iadS 4 (.t 98) (.t 99)),kq 101 (wh 0 100),kq 102 (we 101),kq 103 (.iadA 127 1 (.t 3) (.t 97)),ku (wq 1 103 102)] [[],[],[0,1],[2,0,1],[3,2,0,1],[],[],[5,6],[7,5,6],[8,7,5,6],[4,3,2,0,1,5,6,7,8,9],[10,4,3,2,0,1,5,6,7,8,9]]) (.seq (.reg [kq 104 (ww 127 3),kq 105 (ww 127 10),kq 106 (.eqa true [(127,.i)] (.t 104) (.t 105))]) (.cond (.t 106) (.reg [km 107 8,kq 108 (.bin .sub (.t 107) (ki 1)),km 8 108]) .skip))))))) (.reg [kq 109 (wN 64 1),km 64 109]))))))))) (.reg [kq 110 (wN 56 1),km 56 110])))))))))):IC)
def zhh:IFunc:=⟨113,[.tmp 2],(.seq (.reg [kq 1 (vY 0),kq 2 Ww]) (.scp 0 (.seq .skip (.seq yM (.seq (.reg [kq 111 (.slcA 127 1 (.t 3) none none none),kq 112 (.app [(1,wE)] 1 8 (.c wD) (.t 111)),km 2 112]) .ret))) (.seq (.reg [kq 3 (.new [(127,wE)])]) (.seq (.seq (wH 11 0) (.block 0 (.loop (.seq (.reg [kq 12 (vq 11 127)]) (.seq (wU 12 0) (.seq (.block 1 (.seq (.reg [km 13 11,km 4 13]) (.reg [km 14 4,kq 15 (Wo 127 1 3 14),ku (.st 1 (.t 15) (ki (-1)))]))) (Wr 16 11))))))) (.seq (.reg [kq 5 Ww]) (.seq (.seq (.reg [kq 17 (wh 3 1),kq 18 (ww 320 17),kq 19 wI]) (.block 2 (.loop (.seq (.reg [kq 20 (vq 19 64)]) (.seq (wU 20 2) (.seq (.block 3 (.seq (.reg [km 21 19,kq 22 (.ixA 64 5 (some 5) (.t 18) (.t 19)),kq 7 (.new [(5,wE)]),km 6 21,ku (wq 5 7 22)]) (.seq (.reg [kq 23 (wh 0 7),kq 24 (we 23),kq 25 (wF 24 2)]) (.cond (.t 25) (.dreg [km 26 5,km 27 6,kq 28 (wh 1 7),kq 29 (we 28),kq 30 (wh 2 7),kq 31 (we 30),kq 32 (.bsl [(1,wE)] 1 3 [(0,1,(ki 1)),(1,1,(.t 29)),(2,1,(.t 31))]),kq 33 (.call "roundhouse/wheel.spun" [(wR 127),(.t 32)]),kq 34 (wh 1 7),kq 35 (we 34),kq 36 (wh 2 7),kq 37 (we 36),kq 38 (.bsl [(1,wE)] 1 3 [(0,1,(ki 2)),(1,1,(.t 35)),(2,1,(.t 37))]),kq 39 (.call "roundhouse/wheel.spun" [(wR 126),(.t 38)]),kq 40 (.bin .add (ki 1) (.t 39)),kq 41 (wh 3 7),kq 42 (we 41),kq 43 (.mm true (.t 42) (ki 1)),kq 44 (.mm false (.t 43) (ki 8)),kq 45 (.bld [(4,wE)] [(0,1,(.t 27)),(1,1,(.t 33)),(2,1,(.t 40)),(3,1,(.t 44))]),kq 46 (.bsl [(4,wE)] 4 1 [(0,4,(.t 45))]),kq 47 (.app [(4,wE)] 4 32 (.t 26) (.t 46)),km 5 47] [[],[],[],[2],[],[4],[3,2,5,4],[6,3,2,5,4],[],[8],[],[10],[9,8,11,10],[12,9,8,11,10,7,6,3,2,5,4],[13,12,9,8,11,10,7,6,3,2,5,4],[],[15],[16,15],[17,16,15],[1,7,6,3,2,5,4,14,13,12,9,8,11,10,18,17,16,15],[19,1,7,6,3,2,5,4,14,13,12,9,8,11,10,18,17,16,15],[0,20,19,1,7,6,3,2,5,4,14,13,12,9,8,11,10,18,17,16,15],[21,0,20,19,1,7,6,3,2,5,4,14,13,12,9,8,11,10,18,17,16,15]]) .skip)))) (Wr 48 19))))))) (.seq (wH 8 127) (.seq (.seq (.reg [km 49 5,kq 50 (xd 49),kq 51 (wF 50 0)]) (.cond (.t 51) (wH 8 0) .skip)) (.seq (.label 0) (.seq yM (.seq (.reg [kq 111 (.slcA 127 1 (.t 3) none none none),kq 112 (.app [(1,wE)] 1 8 (.c wD) (.t 111)),km 2 112]) .ret)))))))))))⟩
def zfI:IFunc:=⟨11,[.tmp 2],(.seq (.reg [kq 1 (vY 0),kq 2 (.mv kF)]) (.seq (.reg [kq 3 (wh 0 1),kq 4 (we 3),kq 5 (wF 4 8),km 6 5,kg 7 (wh 2 1) 6 true,kg 8 (we 7) 6 true,kg 9 (wF 8 10) 6 true,kq 10 (wW 6 9),km 2 10]) .ret))⟩
def zbE:IFunc:=⟨9,[.tmp 2],(.seq (.reg [kq 2 Ww]) (.seq (.reg [km 3 0,km 4 0,kq 5 (xd 4),km 6 0,kq 7 (xd 6),kq 8 (.slcS 3 (.t 3) none (some (.t 5)) (some (.t 7))),km 2 8]) .ret))⟩
def zbd:IFunc:=⟨19,[.tmp 4],(.seq (wH 4 0) (.seq (.seq (.reg [km 6 0,kq 7 (xd 6),kq 8 wI]) (.block 0 (.loop (.seq (.reg [kq 9 (xk 8 7)]) (.seq (wU 9 0) (.seq (.block 1 (.seq (.reg [km 10 8,km 5 10]) (.seq (.reg [km 11 1,km 12 0,km 13 5,kq 14 (WD 3 12 13),kq 15 (ww 3 14),kq 16 (.callv (.t 11) [(.t 15)])]) (.cond (.t 16) (.seq (.reg [km 17 5,km 4 17]) .ret) .skip)))) (Wr 18 8))))))) (.seq (.reg [kq 4 (.mv (ki (-1)))]) .ret)))⟩
def zdd:IFunc:=⟨18,[.cell 4 (some 3),.tmp 5],(.seq (.reg [kq 4 (.new [(3,wE)]),kq 5 (.mv kF)]) (.seq (.seq (.reg [km 8 0,km 9 1,kq 10 (.call "slices.IndexFunc[[]roundhouse/opts.Opt,roundhouse/opts.Opt]" (x7 8 9)),km 6 10]) (.seq (.reg [km 11 6,kq 12 (.bin .geq (.t 11) (ki 0))]) (.cond (.t 12) (.seq (.reg [km 13 0,km 14 6,kq 15 (WD 3 13 14),kq 16 (ww 3 15),ku (wq 3 4 16),kq 5 (.mv kT)]) .ret) .skip))) (.seq (.reg [kq 7 (.new [(3,wE)])]) (.seq (.reg [kq 17 (ww 3 7),ku (wq 3 4 17),kq 5 (.mv kF)]) .ret))))⟩
abbrev ya:=(.seq (.seq (.reg [km 7 5,km 8 0,kq 9 (.lenS (.t 8)),kq 10 (.bin .eql (.t 7) (.t 9))]) (.cond (.t 10) (.seq (.reg [km 11 4,kq 12 (.call "slices.Clip[[]roundhouse/opts.Opt,roundhouse/opts.Opt]" [(.t 11)]),km 2 12,kq 3 wI]) .ret) .skip)) (.seq (.reg [km 13 0,km 14 5,kq 15 (.iadS 1 (.t 13) (.t 14)),kq 16 (we 15),kq 17 (.cvi .i64 (.t 16)),km 18 5,kq 19 (.bld [(3,wE)] [(0,1,(.t 17)),(1,1,(.t 18)),(2,1,(ki 1))]),kq 6 (.new [(3,wE)]),ku (wq 3 6 19)]) (.seq (.seq (.reg [kq 20 (wh 0 6),kq 21 (we 20),kq 22 (.bin .gtr (.t 21) (ki 1))]) (.cond (.t 22) (.seq (.seq (.reg [km 23 5,kq 24 (wN 23 1),km 25 0,kq 26 (.lenS (.t 25)),kq 27 (.bin .eql (.t 24) (.t 26)),km 28 27,kg 29 (.mv (.t 0)) 28 false,kg 30 (.mv (.t 5)) 28 false,kg 31 (wN 30 1) 28 false,kg 32 (.iadS 1 (.t 29) (.t 31)) 28 false,kg 33 (we 32) 28 false,kg 34 (.bin .lss (.t 33) (.c (.int .u8 2))) 28 false,kq 35 (.pick (.t 28) kT (.t 34)),km 36 35,kg 37 (.mv (.t 5)) 36 false,kg 38 (.mv (.t 0)) 36 false,kg 39 (.mv (.t 5)) 36 false,kg 40 (wN 39 1) 36 false,kg 41 (.iadS 1 (.t 38) (.t 40)) 36 false,kg 42 (we 41) 36 false,kg 43 (.cvi .i64 (.t 42)) 36 false,kg 44 (.bin .add (.t 37) (.t 43)) 36 false,kg 45 (.mv (.t 0)) 36 false,kg 46 (.lenS (.t 45)) 36 false,kg 47 (.bin .gtr (.t 44) (.t 46)) 36 false,kq 48 (.pick (.t 36) kT (.t 47))]) (.cond (.t 48) (.seq (.reg [kq 2 (.mv (.c wD)),kq 3 (.mv (ki 5))]) .ret) .skip)) (.reg [km 49 0,km 50 5,kq 51 (wN 50 1),kq 52 (.iadS 1 (.t 49) (.t 51)),kq 53 (we 52),kq 54 (.cvi .i64 (.t 53)),kq 55 (wh 2 6),ku (wq 1 55 54)])) .skip)) (.seq (.seq (.reg [km 56 4,kq 57 (ww 3 6),kq 58 (.bsl [(3,wE)] 3 1 [(0,3,(.t 57))]),kq 59 (.app [(3,wE)] 3 24 (.t 56) (.t 58)),km 4 59]) (.seq (.reg [kq 60 (wh 0 6),kq 61 (we 60),kq 62 (wF 61 0)]) (.cond (.t 62) (.seq (.reg [km 63 4,kq 64 (.call "slices.Clip[[]roundhouse/opts.Opt,roundhouse/opts.Opt]" [(.t 63)]),km 2 64,kq 3 wI]) .ret) .skip))) (.seq (.reg [km 65 5,kq 66 (wh 2 6),kq 67 (we 66),kq 68 (.bin .add (.t 65) (.t 67)),km 5 68]) (.goto 0))))):IC)
def ziV:IFunc:=⟨69,[.tmp 2,.tmp 3],(.seq (.reg [kq 2 Ww,kq 3 wI]) (.scp 0 (.seq .skip ya) (.seq (.reg [kq 4 Ww]) (.seq (wH 5 0) (.seq (.label 0) ya)))))⟩
abbrev xT:=(.mv (.c (.int .u32 0)):IOp)
def zgs:IFunc:=⟨25,[.tmp 2],(.seq (.reg [kq 2 xT]) (.seq (.dreg [km 3 0,kq 4 (vM 3 0),kq 5 (we 4),kq 6 (.cvi .u32 (.t 5)),kq 7 (.bin .shl (.t 6) (wR 24)),km 8 0,kq 9 (vM 8 1),kq 10 (we 9),kq 11 (.cvi .u32 (.t 10)),kq 12 (.bin .shl (.t 11) (wR 16)),kq 13 (Wh 7 12),km 14 0,kq 15 (vM 14 2),kq 16 (we 15),kq 17 (.cvi .u32 (.t 16)),kq 18 (.bin .shl (.t 17) (wR 8)),kq 19 (Wh 13 18),km 20 0,kq 21 (vM 20 3),kq 22 (we 21),kq 23 (.cvi .u32 (.t 22)),kq 24 (Wh 19 23),km 2 24] [[],[0],[1,0],[2,1,0],[3,2,1,0],[],[5],[6,5],[7,6,5],[8,7,6,5],[4,3,2,1,0,9,8,7,6,5],[],[11],[12,11],[13,12,11],[14,13,12,11],[10,4,3,2,1,0,9,8,7,6,5,15,14,13,12,11],[],[17],[18,17],[19,18,17],[16,10,4,3,2,1,0,9,8,7,6,5,15,14,13,12,11,20,19,18,17],[21,16,10,4,3,2,1,0,9,8,7,6,5,15,14,13,12,11,20,19,18,17]]) .ret))⟩
def zjT:IFunc:=⟨10,[.tmp 4],(.seq (wH 4 0) (.seq (.reg [km 5 1,km 6 0,kq 7 (.bin .sub (.t 5) (.t 6)),kq 8 (.cvi .i32 (.t 7)),kq 9 (xi 8),km 4 9]) .ret))⟩
abbrev yE a b c d e f:=[km a b,kq c (.ext 0 (.t a)),kq d (.ext 1 (.t a)),km e c,km f d]
def zhr:IFunc:=⟨36,[.tmp 2,.tmp 3,.tmp 4,.tmp 5],(.seq (.reg [kq 2 wI,kq 3 xT,kq 4 xT,kq 5 (.mv kF)]) (.seq (.reg (km 10 0::kq 11 (.call "roundhouse/opts.Walk" [(.t 10)])::(yE 9 11 12 13 6 7))) (.seq (.seq (.reg [km 14 7,kq 15 (vt 14 0)]) (.cond (.t 15) (.seq (.reg [kq 2 wI,kq 3 xT,kq 4 xT,kq 5 (.mv kF)]) .ret) .skip)) (.seq (.reg [km 17 6,kq 18 (.call "roundhouse/opts.find[roundhouse/opts.Opt]" [(.t 17),(.c (.func (.func 132) #[] #[]))]),km 16 18,kq 19 (W3 0 16),kq 20 (W3 1 16),kq 8 (.new [(3,wE)]),ku (wq 3 8 19),km 5 20]) (.seq (.seq (.reg [km 21 5,kq 22 (Wi 21)]) (.cond (.t 22) (.seq (.reg [kq 2 wI,kq 3 xT,kq 4 xT,kq 5 (.mv kF)]) .ret) .skip)) (.seq (.reg [kq 23 (wh 1 8),kq 24 (we 23),kq 25 (wN 24 2),km 2 25]) (.seq (.dreg [km 26 2,km 27 0,km 28 2,kq 29 (.slcS 1 (.t 27) (some (.t 28)) none none),kq 30 (.call "roundhouse/opts.number" [(.t 29)]),km 31 0,km 32 2,kq 33 (wN 32 4),kq 34 (.slcS 1 (.t 31) (some (.t 33)) none none),kq 35 (.call "roundhouse/opts.number" [(.t 34)]),km 2 26,km 3 30,km 4 35,kq 5 (.mv kT)] [[],[],[],[1,2],[3,1,2],[],[],[6],[5,7,6],[8,5,7,6,4,3,1,2],[0,9,8,5,7,6,4,3,1,2],[4,3,1,2,10,0,9,8,5,7,6],[9,8,5,7,6,4,3,1,2,11,10,0],[12,9,8,5,7,6,4,3,1,2,11,10,0]]) .ret)))))))⟩
def zgw:IFunc:=⟨5,[.tmp 2],(.seq (wH 2 0) (.seq (.reg [km 3 0,kq 4 (.bin .and (.t 3) (ki 3)),km 2 4]) .ret))⟩
def zda:IFunc:=⟨5,[.tmp 2],(Wp 2 8 12)⟩
def zhx:IFunc:=⟨20,[.cell 4 (some 2),.tmp 5],(.seq (.reg [kq 2 (vY 0),kq 4 (.new [(2,WL)]),kq 5 (.mv kF)]) (.seq (.reg [kq 6 (wh 1 2),kq 7 (ww 2 6),kq 8 (wh 3 2),kq 9 (ww 2 8),kq 10 (wh 5 2),kq 11 (ww 2 10),kq 12 (.bld [(6,WL)] [(0,2,(.t 7)),(2,2,(.t 9)),(4,2,(.t 11))]),kq 13 (wh 0 2),kq 14 (we 13),kq 15 (.bin .sub (.t 14) (ki 1)),km 16 1,kq 17 (.call "(roundhouse/cookie.three[roundhouse/api.Key]).at" [(.t 12),(.t 15),(.t 16)]),kq 18 (W3 0 17),kq 19 (W3 1 17),ku (wq 2 4 18),km 5 19]) .ret))⟩
abbrev xp a:=kq 11 (ww 2 5)::km 12 1::kq 13 (wh 0 7)::kq 14 (we 13)::kq 15 (wh 1 7)::kq 16 (we 15)::kq 17 (wh 2 7)::kq 18 (we 17)::kq 19 (wh 3 7)::kq 20 (we 19)::km 21 3::km 22 4::kq 23 (.bsl [(1,wE)] 1 7 [(0,1,(.t 12)),(1,1,(.t 14)),(2,1,(.t 16)),(3,1,(.t 18)),(4,1,(.t 20)),(5,1,(.t 21)),(6,1,(.t 22))])::a
def zhv:IFunc:=⟨25,[.tmp 10],(.seq (.reg [kq 5 (vY 0),kq 7 (vY 2),kq 10 (.mv (wR 0))]) (.seq (.reg (xp [kq 24 (.call "roundhouse/sip.Words" (x7 11 23)),km 10 24])) .ret))⟩
def zgv:IFunc:=⟨16,[.tmp 8],(.seq (.reg [kq 4 (vY 0),kq 6 (vY 2),kq 8 wI]) (.seq (.reg [kq 9 (ww 2 4),km 10 1,kq 11 (ww 4 6),km 12 3,kq 13 (.call "roundhouse/cookie.sum" [(.t 9),(.t 10),(.t 11),(ki 64),(.t 12)]),kq 14 (.bin .and (.t 13) (wR 63)),kq 15 (xi 14),km 8 15]) .ret))⟩
def zhu:IFunc:=⟨23,[.tmp 10],(.seq (.reg [kq 5 (vY 0),kq 7 (vY 2),kq 10 wI]) (.seq (.reg [kq 11 (ww 2 5),km 12 1,kq 13 (ww 4 7),km 14 3,km 15 4,kq 16 (.call "roundhouse/cookie.sum" [(.t 11),(.t 12),(.t 13),(.t 14),(.t 15)]),km 17 1,kq 18 (.call "roundhouse/cookie.tagBits" [(.t 17)]),kq 19 (.bin .shl (wR 1) (.t 18)),kq 20 (.bin .sub (.t 19) (wR 1)),kq 21 (.bin .and (.t 16) (.t 20)),kq 22 (xi 21),km 10 22]) .ret))⟩
def zcg:IFunc:=⟨26,[.cell 6 (some 2),.tmp 7],(.seq (.reg [kq 3 (vY 0),kq 6 (.new [(2,WL)]),kq 7 (.mv kF)]) (.seq (.seq (.reg [kq 11 (ww 6 3),kq 12 wI]) (.block 0 (.loop (.seq (.reg [kq 13 (vq 12 3)]) (.seq (wU 13 0) (.seq (.block 1 (.seq (.reg [km 14 12,kq 15 (.ixA 3 2 (some 2) (.t 11) (.t 12)),kq 9 (.new [(2,WL)]),km 8 14,ku (wq 2 9 15)]) (.seq (.reg [km 16 1,km 17 8,kq 18 (yA 16 17),kq 19 (.call "roundhouse/cookie.turn" [(.t 18)]),km 20 2,kq 21 (.call "roundhouse/cookie.turn" [(.t 20)]),kq 22 (.bin .eql (.t 19) (.t 21))]) (.cond (.t 22) (.seq (.reg [kq 23 (ww 2 9),ku (wq 2 6 23),kq 7 (.mv kT)]) .ret) .skip)))) (Wr 24 12))))))) (.seq (.reg [kq 10 (.new [(2,WL)])]) (.seq (.reg [kq 25 (ww 2 10),ku (wq 2 6 25),kq 7 (.mv kF)]) .ret))))⟩
def zc5:IFunc:=⟨17,[.tmp 4],(.seq (.reg [kq 2 (vY 0),kq 4 wI]) (.seq (.dreg [kq 5 (wh 0 2),kq 6 (we 5),kq 7 (.bin .shl (.t 6) (wR 6)),kq 8 (wh 1 2),kq 9 (we 8),kq 10 (Wh 7 9),km 11 1,kq 12 (.call "roundhouse/cookie.tagBits" [(.t 11)]),kq 13 (.bin .shl (.t 10) (.t 12)),kq 14 (wh 2 2),kq 15 (we 14),kq 16 (Wh 13 15),km 4 16] [[],[0],[1,0],[],[3],[2,1,0,4,3],[],[6],[5,2,1,0,4,3,7,6],[],[9],[8,5,2,1,0,4,3,7,6,10,9],[11,8,5,2,1,0,4,3,7,6,10,9]]) .ret))⟩
def zgy:IFunc:=⟨32,[.tmp 8],(.seq (.reg [kq 4 (vY 0),kq 6 (vY 2),kq 8 wI]) (.seq (.reg [kq 10 (wh 0 4),kq 11 (we 10),kq 12 (.call "roundhouse/cookie.turn" [(.t 11)]),km 9 12]) (.seq (.dreg [km 13 9,km 14 3,kq 15 (wh 3 4),kq 16 (ww 2 15),km 17 1,kq 18 (ww 4 6),km 19 9,kq 20 (.call "roundhouse/cookie.veil" [(.t 16),(.t 17),(.t 18),(.t 19)]),kq 21 (WV 14 20),kq 22 (wh 3 4),kq 23 (ww 2 22),km 24 1,kq 25 (ww 4 6),km 26 3,km 27 9,kq 28 (.call "roundhouse/cookie.tag" [(.t 23),(.t 24),(.t 25),(.t 26),(.t 27)]),kq 29 (.bld [(3,wE)] [(0,1,(.t 13)),(1,1,(.t 21)),(2,1,(.t 28))]),km 30 1,kq 31 (.call "(roundhouse/cookie.parts).number" (x7 29 30)),km 8 31] [[],[],[],[2],[],[],[],[3,2,4,5,6],[1,7,3,2,4,5,6],[],[9],[],[],[],[],[10,9,11,12,13,14,7,3,2,4,5,6],[0,8,1,7,3,2,4,5,6,15,10,9,11,12,13,14],[],[16,0,8,1,7,3,2,4,5,6,15,10,9,11,12,13,14,17],[18,16,0,8,1,7,3,2,4,5,6,15,10,9,11,12,13,14,17]]) .ret)))⟩
abbrev WB a b c:=(.cond (.t a) (.seq (.reg [kq b wI,kq c (.mv kF)]) .ret) .skip:IC)
def zgx:IFunc:=⟨75,[.tmp 8,.tmp 9],(.seq (.reg [kq 4 (vY 0),kq 6 (vY 2),kq 8 wI,kq 9 (.mv kF)]) (.seq (.reg [km 16 1,kq 17 (.call "roundhouse/cookie.tagBits" [(.t 16)]),km 10 17]) (.seq (.seq (.reg [km 18 3,kq 19 (vq 18 0),km 20 19,kg 21 (vr 3) 20 false,kg 22 (vr 10) 20 false,kg 23 (.bin .add (ki 8) (.t 22)) 20 false,kg 24 (.bin .shl (ki 1) (.t 23)) 20 false,kg 25 (.bin .geq (.t 21) (.t 24)) 20 false,kq 26 (yq 20 25)]) (WB 26 8 9)) (.seq (.dreg [km 27 3,km 28 10,kq 29 (.bin .add (ki 6) (.t 28)),kq 30 (.bin .shr (.t 27) (.t 29)),km 31 3,km 32 10,kq 33 (.bin .shr (.t 31) (.t 32)),kq 34 (.bin .and (.t 33) (ki 63)),km 35 3,km 36 10,kq 37 (.bin .shl (ki 1) (.t 36)),kq 38 (.bin .sub (.t 37) (ki 1)),kq 39 (.bin .and (.t 35) (.t 38)),kq 40 (.bld [(3,wE)] [(0,1,(.t 30)),(1,1,(.t 34)),(2,1,(.t 39))]),kq 11 (.new [(3,wE)]),ku (wq 3 11 40)] [[],[],[1],[0,2,1],[],[],[4,5],[6,4,5],[],[],[9],[10,9],[8,11,10,9],[3,0,2,1,7,6,4,5,12,8,11,10,9],[],[14,13,3,0,2,1,7,6,4,5,12,8,11,10,9]]) (.seq (.reg [kq 42 (ww 7 4),kq 43 (wh 0 11),kq 44 (we 43),kq 45 (.call "roundhouse/cookie.Key" (x7 42 44)),km 41 45,kq 46 (W3 0 41),kq 47 (W3 1 41),kq 12 (.new [(2,WL)]),ku (wq 2 12 46),km 13 47]) (.seq (.seq (.reg [km 48 13,kq 49 (Wi 48)]) (WB 49 8 9)) (.seq (.dreg [kq 50 (wh 1 11),kq 51 (we 50),kq 52 (ww 2 12),km 53 1,kq 54 (ww 4 6),kq 55 (wh 0 11),kq 56 (we 55),kq 57 (.call "roundhouse/cookie.veil" [(.t 52),(.t 53),(.t 54),(.t 56)]),kq 58 (WV 51 57),km 14 58] [[],[0],[],[],[],[],[5],[2,3,4,6,5],[1,0,7,2,3,4,6,5],[8,1,0,7,2,3,4,6,5]]) (.seq (.seq (.dreg [kq 59 (wh 0 11),kq 60 (we 59),kq 61 (wh 1 11),kq 62 (we 61),kq 63 (ww 2 12),km 64 1,kq 65 (ww 4 6),km 66 14,kq 67 (wh 0 11),kq 68 (we 67),kq 69 (.call "roundhouse/cookie.tag" [(.t 63),(.t 64),(.t 65),(.t 66),(.t 68)]),kq 70 (.bld [(3,wE)] [(0,1,(.t 60)),(1,1,(.t 62)),(2,1,(.t 69))]),kq 15 (.new [(3,wE)]),ku (wq 3 15 70)] [[],[0],[],[2],[],[],[],[],[],[8],[4,5,6,7,9,8],[1,0,3,2,10,4,5,6,7,9,8],[],[12,11,1,0,3,2,10,4,5,6,7,9,8]]) (.seq (.reg [kq 71 (ww 3 15),kq 72 (ww 3 11),kq 73 (.eqa true [(3,.i)] (.t 71) (.t 72))]) (WB 73 8 9))) (.seq (.reg [km 74 14,km 8 74,kq 9 (.mv kT)]) .ret)))))))))⟩
def zhw:IFunc:=⟨12,[.tmp 4],(.seq (.reg [kq 4 xT]) (.seq (.reg [km 5 0,kq 6 (.bin .shr (.t 5) (wR 8)),kq 7 (.bin .shl (.t 6) (wR 20)),km 8 1,kq 9 (.cvi .u32 (.t 8)),kq 10 (.bin .and (.t 9) (.c (.int .u32 1048575))),kq 11 (Wh 7 10),km 4 11]) .ret))⟩
def zhy:IFunc:=⟨10,[.tmp 2,.tmp 3],(.seq (.reg [kq 2 wI,kq 3 wI]) (.seq (.reg [km 4 0,kq 5 (.bin .shr (.t 4) (wR 20)),kq 6 (xi 5),km 7 0,kq 8 (.bin .and (.t 7) (.c (.int .u32 1048575))),kq 9 (xi 8),km 2 6,km 3 9]) .ret))⟩
def zgz:IFunc:=⟨37,[.tmp 4],(.seq (.reg [kq 4 xT]) (.seq (.reg (km 10 0::kq 11 (.call "roundhouse/cookie.Get" [(.t 10)])::(yE 9 11 12 13 5 6))) (.seq (.reg [km 14 5,kq 15 (.cvi .u32 (.t 14)),kq 16 (.bin .shl (.t 15) (wR 8)),km 7 16]) (.seq (.reg [km 17 1,kq 18 (.bin .andNot (.t 17) (.c (.int .u32 255))),km 1 18]) (.seq (.reg [km 19 1,kq 20 (.bin .and (.t 19) (.c (.int .u32 1048575))),km 21 7,kq 22 (.call "roundhouse/opts.Far" (x7 20 21)),km 8 22]) (.seq (.block 0 (.seq (.reg [km 24 8,kq 25 (.bin .geq (.t 24) (ki 524288)),km 23 25]) (.cond (.t 23) (.reg [km 26 8,kq 27 (.bin .sub (.t 26) (ki 1048576)),km 8 27]) (.seq (.reg [km 29 8,kq 30 (.bin .lss (.t 29) (ki (-524288))),km 28 30]) (.cond (.t 28) (.reg [km 31 8,kq 32 (wN 31 1048576),km 8 32]) .skip))))) (.seq (.reg [km 33 1,km 34 8,kq 35 (.cvi .u32 (.t 34)),kq 36 (yA 33 35),km 4 36]) .ret)))))))⟩
abbrev wi:=(.bld [(324,(.int .i64 0)),(6,(.int .u64 0)),(1,(.bool false)),(1,(.int .u32 0)),(1,(.bool false)),(1,(.int .u32 0)),(1,(.bool false)),(1,(.int .u32 0)),(1,(.bool false)),(1,(.int .u32 0)),(1,(.bool false)),(1,(.int .u32 0)),(1,(.bool false)),(1,(.int .u32 0)),(1,(.bool false)),(1,(.int .u32 0)),(1,(.bool false)),(1,(.int .u32 0)),(1,(.bool false)),(1,(.int .u32 0)),(1,(.bool false)),(1,(.int .u32 0)),(1,(.bool false)),(1,(.int .u32 0)),(1,(.bool false)),(1,(.int .u32 0)),(1,(.bool false)),(1,(.int .u32 0)),(1,(.bool false)),(1,(.int .u32 0)),(1,(.bool false)),(1,(.int .u32 0)),(1,(.bool false)),(1,(.int .u32 0)),(1,(.bool false)),(1,(.int .u32 0)),(1,(.bool false)),(1,(.int .u32 0)),(1,(.bool false)),(1,(.int .u32 0)),(1,(.bool false)),(1,(.int .u32 0)),(1,(.bool false)),(1,(.int .u32 0)),(1,(.bool false)),(1,(.int .u32 0)),(1,(.bool false)),(1,(.int .u32 0)),(1,(.bool false)),(1,(.int .u32 0)),(1,(.bool false)),(1,(.int .u32 0)),(1,(.bool false)),(1,(.int .u32 0)),(1,(.bool false)),(1,(.int .u32 0)),(1,(.bool false)),(1,(.int .u32 0)),(1,(.bool false)),(1,(.int .u32 0)),(1,(.bool false)),(1,(.int .u32 0)),(1,(.bool false)),(1,(.int .u32 0)),(1,(.bool false)),(1,(.int .u32 0)),(1,(.bool false)),(1,(.int .u32 0)),(1,(.bool false)),(1,(.int .u32 0)),(1,(.bool false)),(1,(.int .u32 0)),(1,(.bool false)),(1,(.int .u32 0)),(1,(.bool false)),(1,(.int .u32 0)),(1,(.bool false)),(1,(.int .u32 0)),(1,(.bool false)),(1,(.int .u32 0)),(1,(.bool false)),(1,(.int .u32 0)),(1,(.bool false)),(1,(.int .u32 0)),(1,(.bool false)),(1,(.int .u32 0)),(1,(.bool false)),(1,(.int .u32 0)),(1,(.bool false)),(1,(.int .u32 0)),(1,(.bool false)),(1,(.int .u32 0)),(1,(.bool false)),(1,(.int .u32 0)),(1,(.bool false)),(1,(.int .u32 0)),(1,(.bool false)),(1,(.int .u32 0)),(1,(.bool false)),(1,(.int .u32 0)),(1,(.bool false)),(1,(.int .u32 0)),(1,(.bool false)),(1,(.int .u32 0)),(1,(.bool false)),(1,(.int .u32 0)),(1,(.bool false)),(1,(.int .u32 0)),(1,(.bool false)),(1,(.int .u32 0)),(1,(.bool false)),(1,(.int .u32 0)),(1,(.bool false)),(1,(.int .u32 0)),(1,(.bool false)),(1,(.int .u32 0)),(1,(.bool false)),(1,(.int .u32 0)),(1,(.bool false)),(1,(.int .u32 0)),(1,(.bool false)),(1,(.int .u32 0)),(1,(.bool false)),(1,(.int .u32 0)),(1,(.bool false)),(1,(.int .u32 0)),(1,(.bool false)),(1,(.int .u32 0)),(1,(.bool false)),(1,(.int .u32 0)),(1,(.bool false)),(1,(.slice none 0 0))] []:IOp)
def ziU:IFunc:=⟨3,[.tmp 0],(.seq (.reg [kq 0 (.mv (.c (.pointer none)))]) (.seq (.reg [kq 1 wi,kq 2 (vY 1),km 0 2]) .ret))⟩
def zc4:IFunc:=⟨15,[.tmp 2,.tmp 3],(.seq (.reg [kq 2 wI,kq 3 (.mv kF)]) (.seq (.dreg [km 4 0,kq 5 (wG 4),kq 6 (wh 0 5),kq 7 (wh 0 6),kq 8 (wh 0 7),kq 9 (we 8),km 10 0,kq 11 (wG 10),kq 12 (wh 0 11),kq 13 (wh 330 12),kq 14 (we 13),km 2 9,km 3 14] [[],[0],[1,0],[2,1,0],[3,2,1,0],[4,3,2,1,0],[],[6],[7,6],[8,7,6],[9,8,7,6],[5,4,3,2,1,0],[10,9,8,7,6,11,5,4,3,2,1,0]]) .ret))⟩
def zdz:IFunc:=⟨5,[],(.reg [km 2 0,kq 3 wi,kq 4 (wG 2),ku (wq 460 4 3)])⟩
def zdT:IFunc:=⟨14,[],(.seq (.reg [kq 3 (vY 1)]) (.seq (.dreg [km 4 0,kq 5 (wG 4),kq 6 (wh 0 5),kq 7 (ww 330 3),kq 8 (.call "(*roundhouse/plane.maybe[roundhouse/api.Pool]).lay" (x7 6 7))] [[],[0],[1,0],[],[2,1,0,3]]) (.reg (km 9 0::kq 10 (ww 330 3)::kq 11 (.call "roundhouse/wheel.Make" [(.t 10)])::(yV 12 9 13 459 11)))))⟩
def zb8:IFunc:=⟨11,[],(.seq (.reg [kq 3 (vY 1)]) (.reg [km 4 0,km 5 0,kq 6 (ww 330 3),kq 7 (wG 4),kq 8 (wh 0 7),ku (wq 330 8 6),kq 9 (wG 5),kq 10 (wh 330 9),ku (.st 1 (.t 10) kT)]))⟩
abbrev xf:=[(2,wE),(1,(.bool false)),(1,wD)]
def zhq:IFunc:=⟨5,[.cell 2 (some 4)],(.seq (.reg [kq 2 (.new xf)]) (.seq (.reg [km 3 0,kq 4 (.bld xf [(0,1,(.t 3)),(1,1,(ki (-1)))]),ku (wq 4 2 4)]) .ret))⟩
def zhg:IFunc:=⟨24,[.tmp 4],(.seq (.reg [kq 3 (vY 1),kq 4 wI]) (.seq (.reg [kq 6 (wh 0 3),kq 7 (we 6),kq 8 (wh 1 3),kq 9 (we 8),kq 10 (wh 2 3),kq 11 (we 10),kq 12 (wh 3 3),kq 13 (we 12),kq 14 (.bsl [(1,wE)] 1 5 [(0,1,(ki 3)),(1,1,(.t 7)),(2,1,(.t 9)),(3,1,(.t 11)),(4,1,(.t 13))]),kq 15 (.call "roundhouse/wheel.spun" [(wR 127),(.t 14)]),km 5 15]) (.seq (.seq (.reg [km 16 5,km 17 0,kq 18 (xd 17),kq 19 (.bin .geq (.t 16) (.t 18))]) (.cond (.t 19) (.seq (.reg [kq 4 (.mv (ki (-1)))]) .ret) .skip)) (.seq (.reg [km 20 0,km 21 5,kq 22 (WD 1 20 21),kq 23 (we 22),km 4 23]) .ret))))⟩
def zdy:IFunc:=⟨12,[],(.seq (.reg [km 6 2,kq 7 (wF 6 0)]) (.cond (.t 7) (.reg (km 8 0::km 9 1::(yV 10 8 11 14 9))) .skip))⟩
def zdS:IFunc:=⟨26,[.tmp 4,.tmp 5],(.seq (.reg [kq 4 xT,kq 5 (.mv kF)]) (.seq (.seq (.reg [km 6 1,kq 7 (vq 6 0),km 8 7,kg 9 (vr 1) 8 false,kg 10 (.bin .geq (.t 9) (ki 64)) 8 false,kq 11 (yq 8 10)]) (.cond (.t 11) (.seq (.reg [kq 4 xT,kq 5 (.mv kF)]) .ret) .skip)) (.seq (.dreg [km 12 0,km 13 1,kq 14 (wG 12),kq 15 (wh 331 14),kq 16 (Wo 64 2 15 13),kq 17 (wh 0 16),kq 18 (we 17),km 19 0,km 20 1,kq 21 (wG 19),kq 22 (wh 331 21),kq 23 (Wo 64 2 22 20),kq 24 (wh 1 23),kq 25 (we 24),km 4 18,km 5 25] [[],[],[0],[2,0],[3,2,0,1],[4,3,2,0,1],[5,4,3,2,0,1],[],[],[7],[9,7],[10,9,7,8],[11,10,9,7,8],[12,11,10,9,7,8],[6,5,4,3,2,0,1],[13,12,11,10,9,7,8,14,6,5,4,3,2,0,1]]) .ret)))⟩
def zcq:IFunc:=⟨11,[],(.reg [km 4 0,km 5 0,km 6 1,kq 7 (wG 4),kq 8 (wh 0 7),ku (wq 1 8 6),kq 9 (wG 5),kq 10 (wh 1 9),ku (.st 1 (.t 10) kT)])⟩
def zcK:IFunc:=⟨86,[.tmp 4,.tmp 5],(.seq (.reg [kq 3 (vY 1),kq 4 wI,kq 5 (.mv kF)]) (.seq (.reg (yk 13 0 14 15 13 16 [kq 17 (wG 16),kq 18 (wh 0 17),kq 19 (wh 0 18),kq 20 (wh 323 19),kq 21 (ww 7 20),kq 6 (.new [(1,wE),(6,WL)]),ku (wq 7 6 21)])) (.seq (.seq (.reg [km 22 0,kq 23 (wG 22),kq 24 (wh 0 23),kq 25 (wh 0 24),kq 26 (we 25),kq 27 (wF 26 2)]) (.cond (.t 27) (.seq (.seq (.reg [km 28 0,kq 29 (wG 28),kq 30 (wh 0 29),kq 31 (wh 8 30),kq 32 (we 31),kq 33 (wF 32 0)]) (WB 33 4 5)) (.seq (.dreg [kq 34 (ww 7 6),km 35 0,kq 36 (wG 35),kq 37 (wh 0 36),kq 38 (wh 0 37),kq 39 (we 38),kq 40 (ww 4 3),km 41 0,kq 42 (wG 41),kq 43 (wh 0 42),kq 44 (wh 8 43),kq 45 (we 44),kq 46 (.call "roundhouse/cookie.Read" [(.t 34),(.t 39),(.t 40),(.t 45)]),kq 47 (W3 0 46),kq 48 (W3 1 46),km 4 47,km 5 48] [[],[],[1],[2,1],[3,2,1],[4,3,2,1],[],[],[7],[8,7],[9,8,7],[10,9,8,7],[0,5,4,3,2,1,6,11,10,9,8,7],[12,0,5,4,3,2,1,6,11,10,9,8,7],[12,0,5,4,3,2,1,6,11,10,9,8,7],[13,12,0,5,4,3,2,1,6,11,10,9,8,7,14],[14,12,0,5,4,3,2,1,6,11,10,9,8,7,15,13]]) .ret)) .skip)) (.seq (.reg [km 50 0,kq 51 (wG 50),kq 52 (wh 0 51),kq 53 (wh 11 52),kq 54 (we 53),kq 55 (.call "roundhouse/opts.Stamp" [(.t 54)]),km 49 55,kq 56 (.ext 0 (.t 49)),kq 57 (.ext 1 (.t 49)),kq 58 (W3 2 49),kq 59 (W3 3 49),km 7 56,km 8 57,km 9 58,km 10 59]) (.seq (.seq (.reg [km 60 10,kq 61 (Wi 60),km 62 61,kg 63 (vr 0) 62 false,kg 64 (wG 63) 62 false,kg 65 (wh 0 64) 62 false,kg 66 (wh 7 65) 62 false,kg 67 (we 66) 62 false,kg 68 (wF 67 1) 62 false,kq 69 (yq 62 68)]) (WB 69 4 5)) (.seq (.reg (km 71 9::kq 72 (.call "roundhouse/cookie.Get" [(.t 71)])::(yE 70 72 73 74 11 12))) (.seq (.dreg [kq 75 (ww 7 6),km 76 0,kq 77 (wG 76),kq 78 (wh 0 77),kq 79 (wh 0 78),kq 80 (we 79),kq 81 (ww 4 3),km 82 12,kq 83 (.call "roundhouse/cookie.Read" [(.t 75),(.t 80),(.t 81),(.t 82)]),kq 84 (W3 0 83),kq 85 (W3 1 83),km 4 84,km 5 85] [[],[],[1],[2,1],[3,2,1],[4,3,2,1],[],[],[0,5,4,3,2,1,6,7],[8,0,5,4,3,2,1,6,7],[8,0,5,4,3,2,1,6,7],[9,8,0,5,4,3,2,1,6,7,10],[10,8,0,5,4,3,2,1,6,7,11,9]]) .ret)))))))⟩
abbrev yX a b c d e:=[kq a (.ext 0 (.t b)),kq c (.ext 1 (.t b)),kq d (.call "(*roundhouse/plane.packet).then" [(.t e),(.t a),(.t c)])]
def zdR:IFunc:=⟨114,[.cell 4 (some 4)],(.seq (.reg [kq 4 (.new xf)]) (.seq (.reg (yk 11 0 12 13 13 14 [kq 15 (wG 14),kq 16 (wh 0 15),kq 17 (wh 0 16),kq 18 (ww 330 17),kq 5 (.new kA),ku (wq 330 5 18)])) (.seq (.dreg [kq 19 (wh 323 5),kq 20 (ww 7 19),km 21 0,kq 22 (wG 21),kq 23 (wh 0 22),kq 24 (wh 0 23),kq 25 (we 24),km 26 0,kq 27 (wG 26),kq 28 (wh 0 27),kq 29 (wh 4 28),kq 30 (we 29),km 31 0,kq 32 (wG 31),kq 33 (wh 0 32),kq 34 (wh 6 33),kq 35 (we 34),kq 36 (wh 1 5),kq 37 (we 36),kq 38 (wh 2 5),kq 39 (we 38),kq 40 (.bld [(4,wE)] [(0,1,(.t 30)),(1,1,(.t 35)),(2,1,(.t 37)),(3,1,(.t 39))]),km 41 1,kq 42 (.call "roundhouse/cookie.Make" [(.t 20),(.t 25),(.t 40),(.t 41)]),km 6 42] [[],[0],[],[2],[3,2],[4,3,2],[5,4,3,2],[],[7],[8,7],[9,8,7],[10,9,8,7],[],[12],[13,12],[14,13,12],[15,14,13,12],[],[17],[],[19],[11,10,9,8,7,16,15,14,13,12,18,17,20,19],[],[1,0,6,5,4,3,2,21,11,10,9,8,7,16,15,14,13,12,18,17,20,19,22],[23,1,0,6,5,4,3,2,21,11,10,9,8,7,16,15,14,13,12,18,17,20,19,22]]) (.seq (.dreg (yh 43 0 44 0 45 46 14 47 (kq 48 (wh 1 5)::kq 49 (we 48)::kq 50 (wh 2 5)::kq 51 (we 50)::kq 52 (.call "roundhouse/wire.Nat" [(.t 47),kT,(.t 49),(.t 51)])::(yX 53 52 54 55 43))) [[],[],[1],[2,1],[3,2,1],[],[5],[],[7],[4,3,2,1,6,5,8,7],[9,4,3,2,1,6,5,8,7],[9,4,3,2,1,6,5,8,7],[0,10,9,4,3,2,1,6,5,8,7,11]]) (.seq (.seq (.reg [km 56 0,kq 57 (wG 56),kq 58 (wh 0 57),kq 59 (wh 0 58),kq 60 (we 59),kq 61 (wF 60 2)]) (.cond (.t 61) (.reg (yh 62 0 63 0 64 65 14 66 (km 67 6::kq 68 (.call "roundhouse/wire.Write" [(.t 66),(ki 20),(ki 2),(.t 67)])::(yX 69 68 70 71 62)))) (.seq (.reg [km 73 0,kq 74 (wG 73),kq 75 (wh 0 74),kq 76 (wh 11 75),kq 77 (we 76),kq 78 (.call "roundhouse/opts.Stamp" [(.t 77)]),km 72 78,kq 79 (.ext 0 (.t 72)),kq 80 (.ext 1 (.t 72)),kq 81 (W3 2 72),kq 82 (W3 3 72),km 7 79,km 8 80,km 9 81,km 10 82]) (.seq (.reg [km 83 10]) (.cond (.t 83) (.seq (.dreg (yh 84 0 85 0 86 87 14 88 (km 89 7::kq 90 (.bin .add (ki 24) (.t 89))::km 91 8::km 92 6::kq 93 (.call "roundhouse/cookie.Put" (x7 91 92))::kq 94 (xi 93)::kq 95 (.call "roundhouse/wire.Write" [(.t 88),(.t 90),(ki 4),(.t 94)])::(yX 96 95 97 98 84))) [[],[],[1],[2,1],[3,2,1],[],[5],[],[],[7,8],[9,7,8],[4,3,2,1,6,5,10,9,7,8],[11,4,3,2,1,6,5,10,9,7,8],[11,4,3,2,1,6,5,10,9,7,8],[0,12,11,4,3,2,1,6,5,10,9,7,8,13]]) (.reg (yk 99 0 100 101 13 102 [km 103 1,kq 104 (wG 102),kq 105 (wh 331 104),kq 106 (Wo 64 2 105 103),km 107 8,kq 108 (.call "(*roundhouse/plane.maybe[uint32]).lay" (x7 106 107))]))) .skip))))) (.seq (.reg (yk 109 0 110 111 14 112 [kq 113 (.bld xf [(1,1,(ki (-1))),(3,1,(.t 112))]),ku (wq 4 4 113)])) .ret))))))⟩
abbrev vL a b c d:=(.cond (.t a) (.seq (.reg [kq b (.call "roundhouse/plane.drop" [(ki c)]),ku (wq 4 d b)]) .ret) .skip:IC)
def zek:IFunc:=⟨141,[.cell 2 (some 4)],(.seq (.reg [kq 2 (.new xf)]) (.seq (.reg (yk 15 0 16 17 13 18 [kq 19 (wG 18),kq 20 (wh 0 19),kq 21 (wh 0 20),kq 22 (ww 330 21),kq 3 (.new kA),ku (wq 330 3 22)])) (.seq (.dreg [km 23 0,kq 24 (wG 23),kq 25 (wh 0 24),kq 26 (wh 3 25),kq 27 (we 26),km 28 0,kq 29 (wG 28),kq 30 (wh 0 29),kq 31 (wh 5 30),kq 32 (we 31),kq 33 (wh 1 3),kq 34 (we 33),kq 35 (wh 2 3),kq 36 (we 35),kq 37 (.bld [(4,wE)] [(0,1,(.t 27)),(1,1,(.t 32)),(2,1,(.t 34)),(3,1,(.t 36))]),kq 4 (.new [(4,wE)]),ku (wq 4 4 37)] [[],[0],[1,0],[2,1,0],[3,2,1,0],[],[5],[6,5],[7,6,5],[8,7,6,5],[],[10],[],[12],[4,3,2,1,0,9,8,7,6,5,11,10,13,12],[],[15,14,4,3,2,1,0,9,8,7,6,5,11,10,13,12]]) (.seq (.reg (km 39 0::kq 40 (ww 4 4)::kq 41 (.call "(*roundhouse/plane.packet).carried" (x7 39 40))::(yE 38 41 42 43 5 6))) (.seq (.seq (.reg [km 44 6,km 45 44,kg 46 (vr 5) 45 true,kg 47 (wh 3 3) 45 true,kg 48 (Wo 64 5 47 46) 45 true,kg 49 (ww 5 48) 45 true,kg 50 (.call "roundhouse/pool.Takes" [(.t 49)]) 45 true,kq 51 (wW 45 50),km 6 51]) (.seq (.reg [km 52 6,kq 53 (Wi 52)]) (.cond (.t 53) (.dreg (yk 54 0 55 56 13 57 [kq 58 (wG 57),kq 59 (wh 459 58),kq 60 (we 59),kq 61 (ww 4 4),kq 62 (.call "roundhouse/wheel.Pick" (x7 60 61)),km 5 62]) [[],[0],[1,0],[2,1,0],[3,2,1,0],[4,3,2,1,0],[5,4,3,2,1,0],[],[6,5,4,3,2,1,0,7],[8,6,5,4,3,2,1,0,7]]) .skip))) (.seq (.seq (.reg [km 63 5,kq 64 (vq 63 0)]) (vL 64 65 9 2)) (.seq (.reg [km 66 5,kq 67 (wh 3 3),kq 68 (Wo 64 5 67 66),kq 69 (ww 5 68),kq 7 (.new [(5,wE)]),ku (wq 5 7 69)]) (.seq (.dreg (yh 70 0 71 0 72 73 14 74 (kq 75 (wh 1 7)::kq 76 (we 75)::kq 77 (wh 2 7)::kq 78 (we 77)::kq 79 (.call "roundhouse/wire.Nat" [(.t 74),kF,(.t 76),(.t 78)])::(yX 80 79 81 82 70))) [[],[],[1],[2,1],[3,2,1],[],[5],[],[7],[4,3,2,1,6,5,8,7],[9,4,3,2,1,6,5,8,7],[9,4,3,2,1,6,5,8,7],[0,10,9,4,3,2,1,6,5,8,7,11]]) (.seq (.seq (.reg [km 84 0,kq 85 (wG 84),kq 86 (wh 0 85),kq 87 (wh 11 86),kq 88 (we 87),kq 89 (.call "roundhouse/opts.Stamp" [(.t 88)]),km 83 89,kq 90 (.ext 0 (.t 83)),kq 91 (.ext 1 (.t 83)),kq 92 (W3 2 83),kq 93 (W3 3 83),km 8 90,km 9 91,km 10 92,km 11 93]) (.seq (.reg [km 94 11,km 95 94,kg 96 (vr 0) 95 true,kg 97 (wG 96) 95 true,kg 98 (wh 0 97) 95 true,kg 99 (wh 0 98) 95 true,kg 100 (we 99) 95 true,kg 101 (wF 100 1) 95 true,kq 102 (wW 95 101),km 103 102,kg 104 (vr 10) 103 true,kg 105 (.bin .neq (.t 104) (.c (.int .u32 0))) 103 true,kq 106 (wW 103 105)]) (.cond (.t 106) (.seq (wH 12 0) (.seq (.seq (.reg (yk 108 0 109 110 13 111 [km 112 5,kq 113 (.call "(*roundhouse/plane.Plane).Near" (x7 111 112)),km 107 113,kq 114 (W3 0 107),kq 115 (W3 1 107),km 13 114,km 14 115])) (.seq (.reg [km 116 14]) (.cond (.t 116) (.reg [km 117 10,km 118 13,kq 119 (.call "roundhouse/cookie.Back" (x7 117 118)),kq 120 (xi 119),km 12 120]) .skip))) (.reg (yh 121 0 122 0 123 124 14 125 (km 126 8::kq 127 (.bin .add (ki 24) (.t 126))::kq 128 (wN 127 4)::km 129 12::kq 130 (.call "roundhouse/wire.Write" [(.t 125),(.t 128),(ki 4),(.t 129)])::(yX 131 130 132 133 121)))))) .skip))) (.seq (.reg [km 134 5,km 135 6,km 136 0,kq 137 (wG 136),kq 138 (wh 14 137),kq 139 (we 138),kq 140 (.bld xf [(1,1,(.t 134)),(2,1,(.t 135)),(3,1,(.t 139))]),ku (wq 4 2 140)]) .ret))))))))))⟩
def zcE:IFunc:=⟨104,[.cell 4 (some 4)],(.seq (.reg [kq 4 (.new xf)]) (.seq (.seq (.reg [km 10 0,kq 11 (wG 10),kq 12 (wh 0 11),kq 13 (wh 330 12),kq 14 (we 13),kq 15 (Wi 14)]) (vL 15 16 10 4)) (.seq (.reg [km 18 1,kq 19 (.call "roundhouse/wire.Parse" [(.t 18)]),km 17 19,kq 20 (W3 0 17),kq 21 (W3 1 17),kq 5 vu,ku (wq 13 5 20),km 6 21]) (.seq (.block 0 (.seq (.reg [km 23 6,kq 24 (vt 23 0),km 22 24]) (.cond (.t 22) (.seq (.reg [km 25 6,kq 26 (.call "roundhouse/plane.drop" [(.t 25)]),ku (wq 4 4 26)]) .ret) (.seq (.reg [kq 28 (wh 2 5),kq 29 (we 28),kq 30 (vt 29 0),km 27 30]) (.cond (.t 27) (.seq (.reg [kq 31 (.call "roundhouse/plane.drop" [(ki 6)]),ku (wq 4 4 31)]) .ret) (.seq (.reg [kq 33 (wh 1 5),kq 34 (we 33),kq 35 (vq 34 2),km 32 35]) (vL 32 36 7 4))))))) (.seq (.reg [kq 37 (ww 13 5),km 38 0,km 39 1,kq 40 (.bld [(9,wE),(1,(.bool false)),(1,wE),(2,wD),(1,.pointer none),(1,wD)] [(0,13,(.t 37)),(13,1,(.t 38)),(14,1,(.t 39))]),kq 41 (vY 40),km 7 41]) (.seq (.reg (km 42 7::km 43 1::kq 44 (.call "roundhouse/wire.Age" [(.t 43)])::(yX 45 44 46 47 42))) (.seq (.seq (.reg [kq 48 (wh 0 5),kq 49 (we 48),kq 50 (wF 49 3)]) (.cond (.t 50) (.seq (.seq (.dreg [kq 51 (wh 4 5),kq 52 (we 51),km 53 0,kq 54 (wG 53),kq 55 (wh 0 54),kq 56 (wh 0 55),kq 57 (wh 1 56),kq 58 (we 57),kq 59 (.bin .neq (.t 52) (.t 58))] [[],[0],[],[2],[3,2],[4,3,2],[5,4,3,2],[6,5,4,3,2],[1,0,7,6,5,4,3,2]]) (vL 59 60 8 4)) (.seq (.reg [km 61 7,kq 62 (.call "(*roundhouse/plane.packet).fault" [(.t 61)]),ku (wq 4 4 62)]) .ret)) .skip)) (.seq (.seq (.dreg [kq 63 (wh 4 5),kq 64 (we 63),km 65 0,kq 66 (wG 65),kq 67 (wh 0 66),kq 68 (wh 0 67),kq 69 (wh 1 68),kq 70 (we 69),kq 71 (.bin .eql (.t 64) (.t 70)),km 72 71,kg 73 (wh 6 5) 72 true,kg 74 (we 73) 72 true,kg 75 (vr 0) 72 true,kg 76 (wG 75) 72 true,kg 77 (wh 0 76) 72 true,kg 78 (wh 0 77) 72 true,kg 79 (wh 2 78) 72 true,kg 80 (we 79) 72 true,kg 81 (.bin .eql (.t 74) (.t 80)) 72 true,kq 82 (wW 72 81)] [[],[0],[],[2],[3,2],[4,3,2],[5,4,3,2],[6,5,4,3,2],[1,0,7,6,5,4,3,2],[8,1,0,7,6,5,4,3,2],[9,8,1,0,7,6,5,4,3,2],[10,9,8,1,0,7,6,5,4,3,2],[9,8,1,0,7,6,5,4,3,2],[12,9,8,1,0,7,6,5,4,3,2],[13,12,9,8,1,0,7,6,5,4,3,2],[14,13,12,9,8,1,0,7,6,5,4,3,2],[15,14,13,12,9,8,1,0,7,6,5,4,3,2],[16,15,14,13,12,9,8,1,0,7,6,5,4,3,2],[11,10,9,8,1,0,7,6,5,4,3,2,17,16,15,14,13,12],[9,8,1,0,7,6,5,4,3,2,18,11,10,17,16,15,14,13,12]]) (.cond (.t 82) (.seq (.reg [km 83 7,kq 84 (.call "(*roundhouse/plane.packet).in" [(.t 83)]),ku (wq 4 4 84)]) .ret) .skip)) (.seq (.dreg (km 86 0::kq 87 (wG 86)::kq 88 (wh 0 87)::kq 89 (wh 0 88)::kq 90 (ww 330 89)::kq 91 (wh 3 5)::kq 92 (we 91)::kq 93 (wh 5 5)::kq 94 (we 93)::kq 95 (.call "roundhouse/pool.Find" [(.t 90),(.t 92),(.t 94)])::(yE 85 95 96 97 8 9)) [[],[0],[1,0],[2,1,0],[3,2,1,0],[],[5],[],[7],[4,3,2,1,0,6,5,8,7],[9,4,3,2,1,0,6,5,8,7],[10,9,4,3,2,1,0,6,5,8,7],[10,9,4,3,2,1,0,6,5,8,7],[11,10,9,4,3,2,1,0,6,5,8,7],[12,10,9,4,3,2,1,0,6,5,8,7,13,11]]) (.seq (.seq (.reg [km 98 9,kq 99 (Wi 98)]) (vL 99 100 8 4)) (.seq (.reg [km 101 7,km 102 8,kq 103 (.call "(*roundhouse/plane.packet).out" (x7 101 102)),ku (wq 4 4 103)]) .ret)))))))))))⟩
def ziM:IFunc:=⟨5,[.tmp 2],(.seq (wH 2 0) (.seq (.reg [km 3 0,kq 4 (.bin .and (.t 3) (ki 3)),km 2 4]) .ret))⟩
def zfX:IFunc:=⟨5,[.tmp 2],(.seq (.reg [kq 2 (.mv (wR 0))]) (.seq (.seq (.reg [km 3 0,kq 4 (wF 3 1)]) (.cond (.t 4) (.seq (.reg [kq 2 (.mv (wR 12))]) .ret) .skip)) (.seq (.reg [kq 2 (.mv (wR 8))]) .ret)))⟩
def ziL:IFunc:=⟨25,[.tmp 10],(.seq (.reg [kq 5 (vY 0),kq 7 (vY 2),kq 10 (.mv (wR 0))]) (.seq (.reg (xp [kq 24 (.call "roundhouse/roundhouseref2.Words" (x7 11 23)),km 10 24])) .ret))⟩
def ziN:IFunc:=⟨44,[.tmp 10],(.seq (.reg [kq 5 (vY 0),kq 7 (vY 2),kq 10 wI]) (.seq (.reg [km 13 1,kq 14 (.call "roundhouse/roundhouseref5.bits" [(.t 13)]),km 11 14]) (.seq (.reg [km 15 3,kq 16 (ww 2 5),km 17 1,kq 18 (ww 4 7),km 19 4,kq 20 (.call "roundhouse/roundhouseref5.word" [(.t 16),(.t 17),(.t 18),(ki 64),(.t 19)]),kq 21 (.bin .and (.t 20) (wR 63)),kq 22 (xi 21),kq 23 (WV 15 22),km 12 23]) (.seq (.reg [km 24 4,km 25 11,kq 26 (.bin .add (wR 6) (.t 25)),kq 27 (.bin .shl (.t 24) (.t 26)),km 28 12,km 29 11,kq 30 (.bin .shl (.t 28) (.t 29)),kq 31 (Wh 27 30),kq 32 (ww 2 5),km 33 1,kq 34 (ww 4 7),km 35 3,km 36 4,kq 37 (.call "roundhouse/roundhouseref5.word" [(.t 32),(.t 33),(.t 34),(.t 35),(.t 36)]),km 38 11,kq 39 (.bin .shl (wR 1) (.t 38)),kq 40 (.bin .sub (.t 39) (wR 1)),kq 41 (.bin .and (.t 37) (.t 40)),kq 42 (xi 41),kq 43 (Wh 31 42),km 10 43]) .ret))))⟩
def ziQ:IFunc:=⟨18,[.tmp 8],(.seq (.reg [kq 4 (vY 0),kq 6 (vY 2),kq 8 wI]) (.seq (.dreg [kq 9 (wh 3 4),kq 10 (ww 2 9),km 11 1,kq 12 (ww 4 6),km 13 3,kq 14 (wh 0 4),kq 15 (we 14),kq 16 (.call "roundhouse/roundhouseref5.four" [(.t 15)]),kq 17 (.call "roundhouse/roundhouseref5.cook" [(.t 10),(.t 11),(.t 12),(.t 13),(.t 16)]),km 8 17] [[],[0],[],[],[],[],[5],[6,5],[1,0,2,3,4,7,6,5],[8,1,0,2,3,4,7,6,5]]) .ret))⟩
def zgt:IFunc:=⟨15,[.tmp 4],xP⟩
def c_law9_up:IFunc:=⟨11,[.tmp 2],(.seq (.reg [kq 1 (vY 0),kq 2 (.mv (.c (.pointer none)))]) (.seq (.reg [kq 4 (.call "roundhouse/plane.New" []),km 3 4]) (.seq (.seq (.reg [km 5 3,kq 6 (.eqn true .ptr (.t 5) (.c (.pointer none)))]) (.cond (.t 6) (.reg [km 7 3,kq 8 (ww 330 1),kq 9 (.call "(*roundhouse/plane.Plane).Load" (x7 7 8))]) .skip)) (.seq (.reg [km 10 3,km 2 10]) .ret))))⟩
def zgr:IFunc:=⟨31,[.tmp 2],(.seq (.reg [kq 2 Ww]) (.seq (.reg [km 5 0,kq 6 (xd 5),kq 7 (.bin .sub (.t 6) (ki 16)),km 3 7]) (.seq (.reg [km 8 0,kq 9 (vM 8 0),kq 10 (we 9),km 11 3,kq 12 (.bin .shr (.t 11) (wR 8)),kq 13 (.cvi .u8 (.t 12)),km 14 3,kq 15 (.cvi .u8 (.t 14)),kq 16 (.bsl [(1,(.int .u8 0))] 1 4 [(0,1,(.c (.int .u8 0))),(1,1,(.t 10)),(2,1,(.t 13)),(3,1,(.t 15))]),km 4 16]) (.seq (.seq (.reg [km 17 0,kq 18 (vM 17 0),kq 19 (we 18),kq 20 (.bin .neq (.t 19) (.c (.int .u8 3)))]) (.cond (.t 20) (.reg [kq 21 (.bsl [(1,(.int .u8 0))] 1 0 []),km 22 0,kq 23 (.slcS 1 (.t 22) (some (ki 4)) (some (ki 12)) none),kq 24 (xl 21 23),km 25 4,kq 26 (xl 24 25),km 4 26]) .skip)) (.seq (.reg [km 27 4,km 28 0,kq 29 (.slcS 1 (.t 28) (some (ki 16)) none none),kq 30 (xl 27 29),km 2 30]) .ret)))))⟩
def zhm:IFunc:=⟨15,[.tmp 2],(.seq (.reg [kq 2 Ww]) (.seq (.reg [km 3 0,kq 4 (.bin .shr (.t 3) (wR 24)),kq 5 (.cvi .u8 (.t 4)),km 6 0,kq 7 (.bin .shr (.t 6) (wR 16)),kq 8 (.cvi .u8 (.t 7)),km 9 0,kq 10 (.bin .shr (.t 9) (wR 8)),kq 11 (.cvi .u8 (.t 10)),km 12 0,kq 13 (.cvi .u8 (.t 12)),kq 14 (.bsl [(1,(.int .u8 0))] 1 4 [(0,1,(.t 5)),(1,1,(.t 8)),(2,1,(.t 11)),(3,1,(.t 13))]),km 2 14]) .ret))⟩
def ziR:IFunc:=⟨12,[.tmp 4],(.seq (.reg [kq 4 Ww]) (.seq (.reg [kq 5 (.bsl [(1,(.int .u8 0))] 1 4 [(0,1,(.c (.int .u8 1))),(1,1,(.c (.int .u8 1))),(2,1,(.c (.int .u8 8))),(3,1,(.c (.int .u8 10)))]),km 6 0,kq 7 (.call "roundhouse/roundhouseref4.bytes" [(.t 6)]),kq 8 (xl 5 7),km 9 1,kq 10 (.call "roundhouse/roundhouseref4.bytes" [(.t 9)]),kq 11 (xl 8 10),km 4 11]) .ret))⟩
def zjN:IFunc:=⟨12,[.tmp 4],(.seq (.reg [kq 4 xT]) (.seq (.reg [km 5 0,kq 6 (.bin .shr (.t 5) (wR 8)),kq 7 (.bin .and (.t 6) (.c (.int .u32 4095))),kq 8 (.bin .shl (.t 7) (wR 20)),km 9 1,kq 10 (.cvi .u32 (.t 9)),kq 11 (Wh 8 10),km 4 11]) .ret))⟩
abbrev vl a b c d e f g:=(.reg [km a 8,kq b (wh c 1),kq d (we b),kq e (.call "roundhouse/roundhouseref3.put" [(.t a),(ki f),(ki g),(.t d)])]:IC)
def zff:IFunc:=⟨214,[.tmp 2,.tmp 3],(.seq (.reg [kq 1 (vY 0),kq 2 Ww,kq 3 wI]) (.seq (.seq (.reg [kq 10 (wh 0 1),kq 11 (we 10),kq 12 (vq 11 1),km 13 12,kg 14 (wh 0 1) 13 false,kg 15 (we 14) 13 false,kg 16 (.bin .gtr (.t 15) (ki 3)) 13 false,kq 17 (yq 13 16)]) (yp 17 2 3 2)) (.seq (.dreg [kq 18 (wh 0 1),kq 19 (we 18),kq 20 (wF 19 1),kq 21 (wh 0 1),kq 22 (we 21),kq 23 (wF 22 2),kq 24 (wh 0 1),kq 25 (we 24),kq 26 (wF 25 3),km 4 20,km 5 23,km 6 26] [[],[0],[1,0],[],[3],[4,3],[],[6],[7,6],[2,1,0],[5,4,3,9,2,1,0],[8,7,6,10,5,4,3,9,2,1,0]]) (.seq (.seq (.reg [kq 27 (wh 1 1),kq 28 (we 27),kq 29 (.call "roundhouse/roundhouseref3.out" [(.t 28),(ki 255)]),km 30 29,kg 31 (wh 2 1) 30 false,kg 32 (we 31) 30 false,kg 33 (.call "roundhouse/roundhouseref3.out" [(.t 32),(ki 255)]) 30 false,kq 34 (yq 30 33),km 35 34,kg 36 (vr 6) 35 false,kg 37 (vr 36) 35 false,kg 38 (wh 10 1) 37 true,kg 39 (we 38) 37 true,kg 40 (.call "roundhouse/roundhouseref3.out" [(.t 39),(ki 255)]) 37 true,kg 41 (wW 37 40) 35 false,kq 42 (yq 35 41),km 43 42,kg 44 (wh 3 1) 43 false,kg 45 (we 44) 43 false,kg 46 (.call "roundhouse/roundhouseref3.out" [(.t 45),(ki 4294967295)]) 43 false,kq 47 (yq 43 46),km 48 47,kg 49 (wh 4 1) 48 false,kg 50 (we 49) 48 false,kg 51 (.call "roundhouse/roundhouseref3.out" [(.t 50),(ki 4294967295)]) 48 false,kq 52 (yq 48 51),km 53 52,kg 54 (vr 6) 53 false,kg 55 (Wi 54) 53 false,kg 56 (vr 55) 53 false,kg 57 (wh 5 1) 56 true,kg 58 (we 57) 56 true,kg 59 (.call "roundhouse/roundhouseref3.out" [(.t 58),(ki 65535)]) 56 true,kg 60 (vr 59) 56 true,kg 61 (wh 6 1) 60 false,kg 62 (we 61) 60 false,kg 63 (.call "roundhouse/roundhouseref3.out" [(.t 62),(ki 65535)]) 60 false,kg 64 (yq 60 63) 56 true,kg 65 (wW 56 64) 53 false,kq 66 (yq 53 65),km 67 66,kg 68 (vr 4) 67 false,kg 69 (vr 68) 67 false,kg 70 (wh 7 1) 69 true,kg 71 (we 70) 69 true,kg 72 (.call "roundhouse/roundhouseref3.out" [(.t 71),(ki 15)]) 69 true,kg 73 (wW 69 72) 67 false,kq 74 (yq 67 73),km 75 74,kg 76 (vr 5) 75 false,kg 77 (vr 76) 75 false,kg 78 (wh 8 1) 77 true,kg 79 (we 78) 77 true,kg 80 (.call "roundhouse/roundhouseref3.out" [(.t 79),(ki 65535)]) 77 true,kg 81 (wW 77 80) 75 false,kq 82 (yq 75 81)]) (yp 82 2 3 14)) (.seq (.seq (.reg [km 83 4,km 84 83,kg 85 (wh 11 1) 84 true,kg 86 (we 85) 84 true,kg 87 (xd 86) 84 true,kg 88 (.bin .gtr (.t 87) (ki 40)) 84 true,kq 89 (wW 84 88)]) (yp 89 2 3 5)) (.seq (.reg [kq 90 (wh 12 1),kq 91 (we 90),kq 92 (xd 91),kq 93 (.bin .add (ki 24) (.t 92)),km 7 93]) (.seq (.seq (.reg [km 94 4]) (.cond (.t 94) (.reg [km 95 7,kq 96 (wh 11 1),kq 97 (we 96),kq 98 (xd 97),kq 99 (yA 95 98),km 7 99]) .skip)) (.seq (.seq (.reg [km 100 6]) (.cond (.t 100) (.reg [kq 101 (wh 12 1),kq 102 (we 101),kq 103 (xd 102),kq 104 (.bin .add (ki 20) (.t 103)),km 7 104]) .skip)) (.seq (.seq (.reg [km 105 6,km 106 105,kg 107 (wh 12 1) 106 true,kg 108 (we 107) 106 true,kg 109 (xd 108) 106 true,kg 110 (vq 109 24) 106 true,kq 111 (wW 106 110),km 112 111,kg 113 (vr 7) 112 false,kg 114 (.bin .gtr (.t 113) (ki 1500)) 112 false,kq 115 (yq 112 114)]) (yp 115 2 3 3)) (.seq (.reg [km 116 7,kq 117 (.mks [(1,(.int .u8 0))] 1 1 (ki 16) (.t 116)),km 8 117]) (.seq (.dreg [km 118 8,km 119 8,km 120 8,kq 121 (wh 0 1),kq 122 (we 121),kq 123 (.cvi .u8 (.t 122)),kq 124 (wh 1 1),kq 125 (we 124),kq 126 (.cvi .u8 (.t 125)),kq 127 (wh 2 1),kq 128 (we 127),kq 129 (.cvi .u8 (.t 128)),kq 130 (vM 118 0),ku (wq 1 130 123),kq 131 (vM 119 1),ku (wq 1 131 126),kq 132 (vM 120 12),ku (wq 1 132 129)] [[],[],[],[],[3],[4,3],[],[6],[7,6],[],[9],[10,9],[0,3,4,5],[12,0,3,4,5],[1,0,3,4,5,6,7,8,12,13],[14,1,0,3,4,5,6,7,8,12,13],[2,0,1,3,4,5,6,7,8,9,10,11,12,13,14,15],[16,2,0,1,3,4,5,6,7,8,9,10,11,12,13,14,15]]) (.seq (.reg [km 133 8,km 134 7,kq 135 (.call "roundhouse/roundhouseref3.put" [(.t 133),(ki 2),(ki 2),(.t 134)])]) (.seq (vl 136 137 3 138 139 4 4) (.seq (vl 140 141 4 142 143 8 4) (.seq (.reg [km 144 8,km 145 8,kq 146 (.call "roundhouse/roundhouseref1.Of" [(.t 145)]),kq 147 (.call "roundhouse/roundhouseref3.put" [(.t 144),(ki 14),(ki 2),(.t 146)])]) (.seq (.block 0 (.seq (.reg [km 165 6,km 164 165]) (.cond (.t 164) (.reg [km 166 8,kq 167 (wh 10 1),kq 168 (we 167),kq 169 (.cvi .u8 (.t 168)),kq 170 (.bsl [(1,(.int .u8 0))] 1 4 [(0,1,(.t 169)),(1,1,(.c (.int .u8 0))),(2,1,(.c (.int .u8 0))),(3,1,(.c (.int .u8 0)))]),kq 171 (xl 166 170),km 8 171]) (.seq (.reg [km 173 5,km 172 173]) (.cond (.t 172) (.seq (.reg [km 174 8,⟨(some 175),.app [(1,(.int .u8 0))] 1 1 (.t 174) (.c (.string ⟨#[0,0,0,0,0,0,0,0]⟩)),none⟩,km 8 175]) (vl 176 177 8 178 179 20 2)) (.seq (.dreg [km 148 8,⟨(some 149),.appR [(1,(.int .u8 0))] 1 1 (.t 148) (.c (.string ⟨#[0,0,0,0,0,0,0,0]⟩)),none⟩,kq 150 (wh 11 1),kq 151 (we 150),kq 152 (.appR [(1,(.int .u8 0))] 1 1 (.t 149) (.t 151)),km 8 152] [[],[0],[],[2],[1,0,3,2],[4,1,0,3,2]]) (.dreg [km 153 8,km 154 8,kq 155 (wh 7 1),kq 156 (we 155),kq 157 (.cvi .u8 (.t 156)),kq 158 (wh 11 1),kq 159 (we 158),kq 160 (xd 159),kq 161 (.cvi .u8 (.t 160)),kq 162 (vM 153 20),ku (wq 1 162 157),kq 163 (vM 154 21),ku (wq 1 163 161)] [[],[],[],[2],[3,2],[],[5],[6,5],[7,6,5],[0,2,3,4],[9,0,2,3,4],[1,0,2,3,4,5,6,7,8,9,10],[11,1,0,2,3,4,5,6,7,8,9,10]]))))))) (.seq (.seq (.reg [km 180 6,kq 181 (Wi 180)]) (.cond (.t 181) (.seq (vl 182 183 5 184 185 16 2) (vl 186 187 6 188 189 18 2)) .skip)) (.seq (.reg [km 190 8,kq 191 (wh 12 1),kq 192 (we 191),kq 193 (xl 190 192),km 8 193]) (.seq (.reg [km 194 8,kq 195 (.call "roundhouse/roundhouseref3.summed" [(.t 194)]),kq 196 (.call "roundhouse/roundhouseref1.Of" [(.t 195)]),km 9 196]) (.seq (.seq (.reg [km 197 5,km 198 197,kg 199 (vr 9) 198 true,kg 200 (wF 199 0) 198 true,kq 201 (wW 198 200)]) (.cond (.t 201) (wH 9 65535) .skip)) (.seq (.seq (.reg [km 202 5,km 203 202,kg 204 (wh 9 1) 203 true,kg 205 (we 204) 203 true,kq 206 (wW 203 205)]) (.cond (.t 206) (wH 9 0) .skip)) (.seq (.reg [km 207 8,kq 208 (wh 0 1),kq 209 (we 208),kq 210 (.call "roundhouse/roundhouseref3.place" [(.t 209)]),km 211 9,kq 212 (.call "roundhouse/roundhouseref3.put" [(.t 207),(.t 210),(ki 2),(.t 211)])]) (.seq (.reg [km 213 8,km 2 213,kq 3 wI]) .ret)))))))))))))))))))))))⟩
def zhi:IFunc:=⟨27,[.tmp 2,.tmp 3],(.seq (.reg [kq 1 (vY 0),kq 2 wI,kq 3 wI]) (.seq (.reg [kq 6 (.bld [(2,WL)] []),kq 7 (wh 1 1),kq 8 (we 7),kq 9 (wh 2 1),kq 10 (we 9),kq 11 (.bsl [(1,wE)] 1 3 [(0,1,(ki 1)),(1,1,(.t 8)),(2,1,(.t 10))]),kq 12 (.call "roundhouse/roundhouseref2.Words" (x7 6 11)),km 4 12]) (.seq (.reg [kq 13 (.bld [(2,WL)] []),kq 14 (wh 1 1),kq 15 (we 14),kq 16 (wh 2 1),kq 17 (we 16),kq 18 (.bsl [(1,wE)] 1 3 [(0,1,(ki 2)),(1,1,(.t 15)),(2,1,(.t 17))]),kq 19 (.call "roundhouse/roundhouseref2.Words" (x7 13 18)),km 5 19]) (.seq (.reg [km 20 4,kq 21 (.bin .rem (.t 20) (wR 127)),kq 22 (xi 21),km 23 5,kq 24 (.bin .rem (.t 23) (wR 126)),kq 25 (xi 24),kq 26 (wN 25 1),km 2 22,km 3 26]) .ret))))⟩
def ziJ:IFunc:=⟨87,[.tmp 2],(.seq (.reg [kq 1 (vY 0),kq 2 Ww]) (.seq (.reg [kq 12 (.mks [(1,wE)] 1 8 (ki 127) (ki 127)),km 3 12]) (.seq (.seq (wH 4 0) (.block 0 (.loop (.seq (.seq (.reg [km 13 4,kq 14 (vq 13 127)]) (wU 14 0)) (.seq (.block 1 (.reg [km 17 3,km 18 4,kq 19 (WD 1 17 18),ku (.st 1 (.t 19) (ki (-1)))])) (.reg [km 15 4,kq 16 (wN 15 1),km 4 16])))))) (.seq (.reg [kq 5 (.new [(64,wE)])]) (.seq (wH 6 127) (.seq (.seq (.reg [kq 7 (.mv kT)]) (.block 2 (.loop (.seq (.seq (.reg [km 20 7,km 21 20,kg 22 (vr 6) 21 true,kg 23 (.bin .gtr (.t 22) (ki 0)) 21 true,kq 24 (wW 21 23)]) (wU 24 2)) (.block 3 (.seq (W7 7) (.seq (wH 8 0) (.block 4 (.loop (.seq (.seq (.reg [km 25 8,kq 26 (vq 25 64)]) (wU 26 4)) (.seq (.block 5 (.seq (.seq (.reg [km 29 8,kq 30 (wh 3 1),kq 31 (Wo 64 5 30 29),kq 32 (wh 0 31),kq 33 (we 32),kq 34 (vt 33 2)]) (.cond (.t 34) (.exit 5) .skip)) (.seq (.reg [kq 7 (.mv kT)]) (.seq (.reg (km 36 8::kq 37 (wh 3 1)::kq 38 (Wo 64 5 37 36)::kq 39 (ww 5 38)::kq 40 (.call "roundhouse/roundhouseref7.order" [(.t 39)])::(yE 35 40 41 42 9 10))) (.seq (wH 11 0) (.block 6 (.loop (.seq (.seq (.reg [km 43 11,km 44 8,kq 45 (wh 3 1),kq 46 (Wo 64 5 45 44),kq 47 (wh 3 46),kq 48 (we 47),kq 49 (xk 43 48),km 50 49,kg 51 (vr 6) 50 true,kg 52 (.bin .gtr (.t 51) (ki 0)) 50 true,kq 53 (wW 50 52)]) (wU 53 6)) (.seq (.block 7 (.seq (.block 8 (.loop (.seq (.seq (.reg [km 56 3,km 57 9,km 58 8,kq 59 (Wo 64 1 5 58),kq 60 (we 59),km 61 10,kq 62 (.bin .mul (.t 60) (.t 61)),kq 63 (yA 57 62),kq 64 (.bin .rem (.t 63) (ki 127)),kq 65 (WD 1 56 64),kq 66 (we 65),kq 67 (.bin .geq (.t 66) (ki 0))]) (wU 67 8)) (.block 9 (.reg [km 68 8,kq 69 (Wo 64 1 5 68),kq 70 (we 69),kq 71 (wN 70 1),kq 72 (Wo 64 1 5 68),ku (wq 1 72 71)]))))) (.seq (.reg [km 73 3,km 74 9,km 75 8,kq 76 (Wo 64 1 5 75),kq 77 (we 76),km 78 10,kq 79 (.bin .mul (.t 77) (.t 78)),kq 80 (yA 74 79),kq 81 (.bin .rem (.t 80) (ki 127)),km 82 8,kq 83 (WD 1 73 81),ku (wq 1 83 82)]) (.reg [km 84 6,kq 85 (.bin .sub (.t 84) (ki 1)),km 6 85])))) (.reg [km 54 11,kq 55 (wN 54 1),km 11 55])))))))))) (.reg [km 27 8,kq 28 (wN 27 1),km 8 28])))))))))))) (.seq (.reg [km 86 3,km 2 86]) .ret)))))))⟩
def ziI:IFunc:=⟨20,[.tmp 4],(.seq (.reg [kq 3 (vY 1),kq 4 wI]) (.seq (.reg [km 5 0,kq 6 (.bld [(2,WL)] []),kq 7 (wh 0 3),kq 8 (we 7),kq 9 (wh 1 3),kq 10 (we 9),kq 11 (wh 2 3),kq 12 (we 11),kq 13 (wh 3 3),kq 14 (we 13),kq 15 (.bsl [(1,wE)] 1 5 [(0,1,(ki 3)),(1,1,(.t 8)),(2,1,(.t 10)),(3,1,(.t 12)),(4,1,(.t 14))]),kq 16 (.call "roundhouse/roundhouseref2.Words" (x7 6 15)),kq 17 (.bin .rem (.t 16) (wR 127)),kq 18 (WD 1 5 17),kq 19 (we 18),km 4 19]) .ret))⟩
def zhs:IFunc:=⟨94,[.tmp 0],(.seq (W7 0) (.seq (.reg [kq 13 (.call "roundhouse/plane.New" []),km 1 13]) (.seq (.seq (.reg [km 14 1,kq 15 (.eqn false .ptr (.t 14) (.c (.pointer none)))]) (.cond (.t 15) (.seq (W7 0) .ret) .skip)) (.seq (.reg [km 16 1,kq 17 (.call "(*roundhouse/plane.Plane).Take" [(.t 16),(.c wD)]),kq 2 (.new xf),ku (wq 4 2 17)]) (.seq (.reg [kq 18 (.bsl [(1,wE)] 1 2 [(0,1,(ki 0)),(1,1,(ki 2))]),kq 19 (.call "roundhouse/roundhouselaw6.Make" [(.t 18),(ki 2)]),kq 3 (.new kA),ku (wq 330 3 19)]) (.seq (.reg [km 20 1,kq 21 (ww 330 3),kq 22 (.call "(*roundhouse/plane.Plane).Load" (x7 20 21))]) (.seq (.reg (km 24 1::kq 25 (.call "(*roundhouse/plane.Plane).Version" [(.t 24)])::(yE 23 25 26 27 4 5))) (.seq (.reg (kq 29 (.bld [(9,(.int .i64 0)),(1,(.bool false)),(1,(.int .i64 0)),(2,(.slice none 0 0))] [(0,1,(ki 2)),(1,1,(ki 9)),(3,1,(ki 1)),(4,1,(ki 10)),(5,1,(ki 2)),(6,1,(ki 80))])::kq 30 (.call "roundhouse/roundhouseref3.Build" [(.t 29)])::(yE 28 30 31 32 6 7))) (.seq (.reg [km 33 1,km 34 6,kq 35 (.call "(*roundhouse/plane.Plane).Take" (x7 33 34)),kq 8 (.new xf),ku (wq 4 8 35)]) (.seq (.reg (km 37 1::kq 38 (.call "(*roundhouse/plane.Plane).Near" [(.t 37),(ki 0)])::(yE 36 38 39 40 9 10))) (.seq (.reg [km 41 1,kq 42 (.call "(*roundhouse/plane.Plane).Crash" [(.t 41)])]) (.seq (.reg (km 44 1::kq 45 (.call "(*roundhouse/plane.Plane).Version" [(.t 44)])::(yE 43 45 46 47 11 12))) (.seq (.reg [kq 48 (wh 0 2),kq 49 (we 48),kq 50 (wF 49 10),km 51 50,kg 52 (wh 1 2) 51 true,kg 53 (we 52) 51 true,kg 54 (.bin .eql (.t 53) (ki (-1))) 51 true,kq 55 (wW 51 54),km 56 55,kg 57 (vr 5) 56 true,kq 58 (wW 56 57),km 59 58,kg 60 (vr 4) 59 true,kg 61 (wF 60 2) 59 true,kq 62 (wW 59 61),km 63 62,kg 64 (wh 0 8) 63 true,kg 65 (we 64) 63 true,kg 66 (wF 65 0) 63 true,kq 67 (wW 63 66),km 68 67,kg 69 (wh 1 8) 68 true,kg 70 (we 69) 68 true,kg 71 (wF 70 0) 68 true,kq 72 (wW 68 71),km 73 72,kg 74 (wh 2 8) 73 true,kg 75 (we 74) 73 true,kg 76 (Wi 75) 73 true,kq 77 (wW 73 76),km 78 77,kg 79 (wh 3 8) 78 true,kg 80 (we 79) 78 true,kg 81 (xd 80) 78 true,kg 82 (vr 6) 78 true,kg 83 (xd 82) 78 true,kg 84 (.bin .eql (.t 81) (.t 83)) 78 true,kq 85 (wW 78 84),km 86 85,kg 87 (vr 10) 86 true,kg 88 (Wi 87) 86 true,kq 89 (wW 86 88),km 90 89,kg 91 (vr 12) 90 true,kg 92 (Wi 91) 90 true,kq 93 (wW 90 92),km 0 93]) .ret)))))))))))))⟩
def zel:IFunc:=⟨110,[.tmp 10],(.seq (W7 10) (.seq (.seq (.reg [kq 20 (.call "roundhouse/roundhouselaw9.known" []),kq 21 (Wi 20)]) (.cond (.t 21) (.seq (W7 10) .ret) .skip)) (.seq (.reg [km 22 0,kq 23 (.call "roundhouse/roundhouselaw6.Make" [(.t 22),(ki 60)]),kq 11 (.new kA),ku (wq 330 11 23)]) (.seq (.reg [kq 24 (ww 330 11),kq 25 (.call "roundhouse/roundhouselaw9.up" [(.t 24)]),km 12 25]) (.seq (.reg [km 26 2,kq 27 (.call "roundhouse/roundhouselaw9.within" [(.t 26),(ki 6)]),km 13 27]) (.seq (.seq (.reg [km 28 12,kq 29 (.eqn false .ptr (.t 28) (.c (.pointer none)))]) (.cond (.t 29) (.seq (W7 10) .ret) .skip)) (.seq (.seq (.reg [km 30 13,kq 31 (wh 3 11),kq 32 (Wo 64 5 31 30),kq 33 (ww 5 32),kq 34 (.call "roundhouse/roundhouseref6.Takes" [(.t 33)]),kq 35 (Wi 34)]) (.cond (.t 35) (.seq (.reg [kq 10 (.mv kT)]) .ret) .skip)) (.seq (.dreg [km 36 1,kq 37 (.call "roundhouse/roundhouselaw9.within" [(.t 36),(ki 65536)]),kq 38 (wh 1 11),kq 39 (we 38),kq 40 (wh 2 11),kq 41 (we 40),kq 42 (.bld [(4,wE)] [(0,1,(ki 4000)),(1,1,(.t 37)),(2,1,(.t 39)),(3,1,(.t 41))]),kq 14 (.new [(4,wE)]),ku (wq 4 14 42)] [[],[0],[],[2],[],[4],[1,0,3,2,5,4],[],[7,6,1,0,3,2,5,4]]) (.seq (.dreg [kq 43 (wh 0 14),kq 44 (we 43),kq 45 (wh 1 14),kq 46 (we 45),kq 47 (wh 1 11),kq 48 (we 47),kq 49 (wh 2 11),kq 50 (we 49),km 51 3,kq 52 (.call "roundhouse/roundhouselaw9.within" [(.t 51),(ki 16)]),km 53 4,kq 54 (.cvi .u32 (.t 53)),km 55 4,kq 56 (.cvi .u32 (.t 55)),kq 57 (wh 323 11),kq 58 (ww 7 57),kq 59 (ww 4 14),km 60 13,kq 61 (.call "roundhouse/roundhouseref5.Make" [(.t 58),(ki 1),(.t 59),(.t 60)]),kq 62 (.call "roundhouse/roundhouseref5.Put" (x7 56 61)),kq 63 (.call "roundhouse/roundhouseref4.Make" (x7 54 62)),kq 64 (.bld [(9,(.int .i64 0)),(1,(.bool false)),(1,(.int .i64 0)),(2,(.slice none 0 0))] [(0,1,(ki 1)),(1,1,(ki 5)),(3,1,(.t 44)),(5,1,(.t 46)),(4,1,(.t 48)),(6,1,(.t 50)),(7,1,(.t 52)),(11,1,(.t 63))]),kq 15 vu,ku (wq 13 15 64)] [[],[0],[],[2],[],[4],[],[6],[],[8],[],[10],[],[12],[],[14],[],[],[15,14,16,17,9,8],[13,12,18,15,14,16,17,9,8],[11,10,19,13,12,18,15,14,16,17,9,8],[1,0,3,2,5,4,7,6,9,8,20,11,10,19,13,12,18,15,14,16,17],[],[22,21,1,0,3,2,5,4,7,6,9,8,20,11,10,19,13,12,18,15,14,16,17]]) (.seq (.reg (kq 66 (ww 13 15)::kq 67 (.call "roundhouse/roundhouseref3.Build" [(.t 66)])::(yE 65 67 68 69 16 17))) (.seq (.reg [km 70 12,km 71 16,kq 72 (.call "(*roundhouse/plane.Plane).Take" (x7 70 71)),kq 18 (.new xf),ku (wq 4 18 72)]) (.seq (.seq (.reg [kq 73 (wh 7 15),kq 74 (we 73),kq 75 (vt 74 1)]) (.cond (.t 75) (.seq (.reg [kq 76 (wh 0 18),kq 77 (we 76),kq 78 (wF 77 0),km 79 78,kg 80 (wh 2 18) 79 true,kg 81 (we 80) 79 true,kq 82 (wW 79 81),km 83 82,kg 84 (wh 1 18) 83 true,kg 85 (we 84) 83 true,kg 86 (vr 13) 83 true,kg 87 (.bin .eql (.t 85) (.t 86)) 83 true,kq 88 (wW 83 87),km 10 88]) .ret) .skip)) (.seq (.dreg [kq 89 (ww 330 11),kq 90 (.call "roundhouse/roundhouseref7.Make" [(.t 89)]),kq 91 (ww 4 14),kq 92 (.call "roundhouse/roundhouseref7.Pick" (x7 90 91)),km 19 92] [[],[0],[],[1,0,2],[3,1,0,2]]) (.seq (.reg [kq 93 (wh 2 18),kq 94 (we 93),kq 95 (Wi 94),km 96 95,kg 97 (wh 1 18) 96 true,kg 98 (we 97) 96 true,kg 99 (vr 19) 96 true,kg 100 (.bin .eql (.t 98) (.t 99)) 96 true,kq 101 (wW 96 100),km 102 101,kg 103 (wh 0 18) 102 true,kg 104 (we 103) 102 true,kg 105 (wF 104 0) 102 true,kg 106 (vr 19) 102 true,kg 107 (.bin .geq (.t 106) (ki 0)) 102 true,kg 108 (.eqb false (.t 105) (.t 107)) 102 true,kq 109 (wW 102 108),km 10 109]) .ret))))))))))))))⟩
class PrC (P:Program):Prop where
  pool_may:qE P "roundhouse/pool.may" =some zjS
  sum_Plus:qE P "roundhouse/sum.Plus" =some zjJ
  ref1_Plus:qE P "roundhouse/roundhouseref1.Plus" =some ziS
  sum_Add:qE P "roundhouse/sum.Add" =some c_sum_Add
  ref1_Add:qE P "roundhouse/roundhouseref1.Add" =some zjR
  ref1_Of:qE P "roundhouse/roundhouseref1.Of" =some c_ref1_Of
  sum_Right:qE P "roundhouse/sum.Right" =some ziG
  sum_Turn:qE P "roundhouse/sum.Turn" =some zjI
  wire_get:qE P "roundhouse/wire.get" =some zjF
  wire_put:qE P "roundhouse/wire.put" =some zjE
  ref3_put:qE P "roundhouse/roundhouseref3.put" =some zjO
  wire_sumPlace:qE P "roundhouse/wire.sumPlace" =some zfc
  ref3_place:qE P "roundhouse/roundhouseref3.place" =some zhn
  wire_known:qE P "roundhouse/wire.known" =some zhc
  wire_within:qE P "roundhouse/wire.within" =some zgq
  ref3_out:qE P "roundhouse/roundhouseref3.out" =some zjP
  wire_pair:qE P "roundhouse/wire.pair" =some ziE
  wire_clone:qE P "roundhouse/wire.clone" =some zhd
  wire_head:qE P "roundhouse/wire.head" =some ziF
  wire_Parse:qE P "roundhouse/wire.Parse" =some zhf
  wire_begin:qE P "roundhouse/wire.begin" =some zhe
  wire_turner_turn:qE P "(*roundhouse/wire.turner).turn" =some zdM
  wire_turner_body:qE P "(*roundhouse/wire.turner).body" =some zdO
  wire_turner_done:qE P "(*roundhouse/wire.turner).done" =some zdN
  wire_Age:qE P "roundhouse/wire.Age" =some zjH
  wire_Nat:qE P "roundhouse/wire.Nat" =some zjG
  wire_Write:qE P "roundhouse/wire.Write" =some zfd
  math_bits_RotateLeft64:qE P "math/bits.RotateLeft64" =some zax
  ref2_left:qE P "roundhouse/roundhouseref2.left" =some zcT
  sip_state_round:qE P "(*roundhouse/sip.state).round" =some zei
  ref2_state_round:qE P "(*roundhouse/roundhouseref2.state).round" =some zdQ
  sip_state_rounds:qE P "(*roundhouse/sip.state).rounds" =some zdP
  sip_state_take:qE P "(*roundhouse/sip.state).take" =some zeG
  ref2_state_eat:qE P "(*roundhouse/roundhouseref2.state).eat" =some zeH
  sip_number_byte:qE P "roundhouse/sip.number[[]byte]" =some zej
  ref2_low:qE P "roundhouse/roundhouseref2.low" =some zjQ
  sip_Of:qE P "roundhouse/sip.Of" =some c_sip_Of
  ref2_Of:qE P "roundhouse/roundhouseref2.Of" =some c_ref2_Of
  sip_Words:qE P "roundhouse/sip.Words" =some ziH
  ref2_Words:qE P "roundhouse/roundhouseref2.Words" =some zho
  pool_Takes:qE P "roundhouse/pool.Takes" =some zhp
  pool_Find:qE P "roundhouse/pool.Find" =some ziT
  ref6_out:qE P "roundhouse/roundhouseref6.out" =some zjK
  ref5_Next:qE P "roundhouse/roundhouseref5.Next" =some ziP
  law5_Key:qE P "roundhouse/roundhouselaw5.Key" =some zjU
  law6_within:qE P "roundhouse/roundhouselaw6.within" =some zgu
  ref6_Takes:qE P "roundhouse/roundhouseref6.Takes" =some zhj
  ref6_Check:qE P "roundhouse/roundhouseref6.Check" =some zhk
  ref5_Ring:qE P "roundhouse/roundhouseref5.Ring" =some ziO
  ref6_Held:qE P "roundhouse/roundhouseref6.Held" =some ziK
  ref6_bad:qE P "roundhouse/roundhouseref6.bad" =some zjL
  ref6_Apply:qE P "roundhouse/roundhouseref6.Apply" =some zhl
  ref6_New:qE P "roundhouse/roundhouseref6.New" =some zjM
  law6_Entry:qE P "roundhouse/roundhouselaw6.Entry" =some zht
  law6_Make:qE P "roundhouse/roundhouselaw6.Make" =some ziW
  wheel_spun:qE P "roundhouse/wheel.spun" =some zfe
  wheel_Make:qE P "roundhouse/wheel.Make" =some zhh
  opts_Stamp_1:codeAt P 132 =some zfI
  slices_Clip_opts_Opt_opts_Opt:qE P "slices.Clip[[]roundhouse/opts.Opt,roundhouse/opts.Opt]" =some zbE
  slices_IndexFunc_opts_Opt_opts_Opt:qE P "slices.IndexFunc[[]roundhouse/opts.Opt,roundhouse/opts.Opt]" =some zbd
  opts_find_opts_Opt:qE P "roundhouse/opts.find[roundhouse/opts.Opt]" =some zdd
  opts_Walk:qE P "roundhouse/opts.Walk" =some ziV
  opts_number:qE P "roundhouse/opts.number" =some zgs
  opts_Far:qE P "roundhouse/opts.Far" =some zjT
  opts_Stamp:qE P "roundhouse/opts.Stamp" =some zhr
  cookie_turn:qE P "roundhouse/cookie.turn" =some zgw
  cookie_tagBits:qE P "roundhouse/cookie.tagBits" =some zda
  cookie_three_api_Key_at:qE P "(roundhouse/cookie.three[roundhouse/api.Key]).at" =some zcg
  cookie_Key:qE P "roundhouse/cookie.Key" =some zhx
  cookie_sum:qE P "roundhouse/cookie.sum" =some zhv
  cookie_veil:qE P "roundhouse/cookie.veil" =some zgv
  cookie_tag:qE P "roundhouse/cookie.tag" =some zhu
  cookie_parts_number:qE P "(roundhouse/cookie.parts).number" =some zc5
  cookie_Make:qE P "roundhouse/cookie.Make" =some zgy
  cookie_Read:qE P "roundhouse/cookie.Read" =some zgx
  cookie_Put:qE P "roundhouse/cookie.Put" =some zhw
  cookie_Get:qE P "roundhouse/cookie.Get" =some zhy
  cookie_Back:qE P "roundhouse/cookie.Back" =some zgz
  plane_Plane_Version:qE P "(*roundhouse/plane.Plane).Version" =some zc4
  plane_Plane_Crash:qE P "(*roundhouse/plane.Plane).Crash" =some zdz
  plane_maybe_api_Pool_lay:qE P "(*roundhouse/plane.maybe[roundhouse/api.Pool]).lay" =some zb8
  plane_Plane_Load:qE P "(*roundhouse/plane.Plane).Load" =some zdT
  plane_New:qE P "roundhouse/plane.New" =some ziU
  plane_drop:qE P "roundhouse/plane.drop" =some zhq
  wheel_Pick:qE P "roundhouse/wheel.Pick" =some zhg
  plane_packet_then:qE P "(*roundhouse/plane.packet).then" =some zdy
  plane_Plane_Near:qE P "(*roundhouse/plane.Plane).Near" =some zdS
  plane_maybe_uint32_lay:qE P "(*roundhouse/plane.maybe[uint32]).lay" =some zcq
  plane_packet_carried:qE P "(*roundhouse/plane.packet).carried" =some zcK
  plane_packet_out:qE P "(*roundhouse/plane.packet).out" =some zdR
  plane_packet_in:qE P "(*roundhouse/plane.packet).in" =some zek
  ref5_four:qE P "roundhouse/roundhouseref5.four" =some ziM
  ref5_bits:qE P "roundhouse/roundhouseref5.bits" =some zfX
  ref5_word:qE P "roundhouse/roundhouseref5.word" =some ziL
  ref5_cook:qE P "roundhouse/roundhouseref5.cook" =some ziN
  ref5_Make:qE P "roundhouse/roundhouseref5.Make" =some ziQ
  law9_within:qE P "roundhouse/roundhouselaw9.within" =some zgt
  law9_up:qE P "roundhouse/roundhouselaw9.up" =some c_law9_up
  ref3_summed:qE P "roundhouse/roundhouseref3.summed" =some zgr
  ref4_bytes:qE P "roundhouse/roundhouseref4.bytes" =some zhm
  ref4_Make:qE P "roundhouse/roundhouseref4.Make" =some ziR
  ref5_Put:qE P "roundhouse/roundhouseref5.Put" =some zjN
  ref3_Build:qE P "roundhouse/roundhouseref3.Build" =some zff
  ref7_order:qE P "roundhouse/roundhouseref7.order" =some zhi
  ref7_Make:qE P "roundhouse/roundhouseref7.Make" =some ziJ
  ref7_Pick:qE P "roundhouse/roundhouseref7.Pick" =some ziI
  plane_Plane_Take:qE P "(*roundhouse/plane.Plane).Take" =some zcE
  law9_known:qE P "roundhouse/roundhouselaw9.known" =some zhs
  law9_PlaneOpens:qE P "roundhouse/roundhouselaw9.PlaneOpens" =some zel
end Go.Rh

namespace Go.Rh
inductive Blk where
  | cells (c:List Value) (rw:Bool)
  | map (es:List (Value×Value))
  | chan (cap:Nat) (buf:List Value)
  | iter (m n:Nat) (seen:List Nat)
  | gone
structure St where
  f:Nat→Value
  h:List Blk
def setf (f:Nat→Value) (d:Nat) (v:Value):Nat→Value:=fun i=>if i=d then v else f i
def zau (f:Nat→Value) (d:Option Nat) (v:Value):Nat→Value:=match d with
 | some d=>setf f d v
 | none=>f
def evf (f:Nat→Value):Opd→Value
 | .t n=>f n
 | .c v=>v
inductive Eff where
  | no
  | set (k:Nat) (b:Blk)
  | push (b:Blk)
def Eff.on (h:List Blk):Eff→List Blk
 | .no=>h
 | .set k b=>h.set k b
 | .push b=>h++ [b]
def zdE:Value→List Value
 | .agg a=>a.toList
 | v=> [v]
def junk:Value:= .complex .f64 0 0
def zbt:Value→Bool
 | .tuple _=>true
 | .complex _ _ _=>true
 | _=>false
def splice (c:List Value) (o:Nat) (vs:List Value):List Value:=c.take o++vs++c.drop (o+vs.length)
def zgo (cs:List Value):List (Nat×Nat×Value)→Option (List Value)
 | []=>some cs
 | (o,s,v)::r=>if zbt v=false∧(zdE v).length=s∧o+s≤cs.length then zgo (splice cs o (zdE v)) r else none
def binI (op:BinOp) (k:IntKind) (a:Int) (k':IntKind) (b:Int):Option Value:=
 match op with
 | .shl=>if b < 0 then none else some (.int k (k.wrap (a*2^(min b.toNat k.bits))))
 | .shr=>if b < 0 then none else some (.int k (a.fdiv (2^(min b.toNat k.bits))))
 | op=>if k≠k' then none else match op with
  | .add=>some (.int k (k.wrap (a+b)))
  | .sub=>some (.int k (k.wrap (a - b)))
  | .mul=>some (.int k (k.wrap (a*b)))
  | .quo=>if b=0 then none else some (.int k (k.wrap (a.tdiv b)))
  | .rem=>if b=0 then none else some (.int k (a.tmod b))
  | .and=>some (.int k (k.wrap (BitVec.ofInt k.bits a&&&BitVec.ofInt k.bits b).toNat))
  | .or=>some (.int k (k.wrap (BitVec.ofInt k.bits a ||| BitVec.ofInt k.bits b).toNat))
  | .xor=>some (.int k (k.wrap (BitVec.ofInt k.bits a^^^BitVec.ofInt k.bits b).toNat))
  | .andNot=>some (.int k (k.wrap (BitVec.ofInt k.bits a&&& ~~~(BitVec.ofInt k.bits b)).toNat))
  | .eql=>some (.bool (a==b))
  | .neq=>some (.bool (a !=b))
  | .lss=>some (.bool (decide (a < b)))
  | .leq=>some (.bool (decide (a≤b)))
  | .gtr=>some (.bool (decide (a > b)))
  | .geq=>some (.bool (decide (a≥b)))
  | _=>none
def binS (op:BinOp) (x y:ByteArray):Option Value:=
 match op with
 | .add=>if ((x.size+y.size:Nat):Int) > IntKind.i64.max then none else some (.string (x++y))
 | .eql=>some (.bool (x.toList==y.toList))
 | .neq=>some (.bool (!(x.toList==y.toList)))
 | .lss=>some (.bool (Op.bytesLess x.toList y.toList))
 | .leq=>some (.bool (Op.bytesLess x.toList y.toList || x.toList==y.toList))
 | .gtr=>some (.bool (!(Op.bytesLess x.toList y.toList || x.toList==y.toList)))
 | .geq=>some (.bool (!Op.bytesLess x.toList y.toList))
 | _=>none
def binV (op:BinOp):Value→Value→Option Value
 | .int k a,.int k' b=>binI op k a k' b
 | .string a,.string b=>binS op a b
 | _,_=>none
def eq1K:LK→Value→Value→Option Bool
 | .b,.bool a,.bool b=>some (a==b)
 | .i,.int k a,.int k' b=>if k=k' then some (a==b) else none
 | .s,.string a,.string b=>some (a==b)
 | _,_,_=>none
def eqK:List LK→List Value→List Value→Option Bool
 | [],[],[]=>some true
 | k::ks,a::x,b::y=>match eq1K k a b,eqK ks x y with
  | some r,some q=>some (r&&q)
  | _,_=>none
 | _,_,_=>none
def zfW:NK→Value→Option Bool
 | .ptr,.pointer a=>some a.isNone
 | .slc,.slice a _ _=>some a.isNone
 | .map,.map a=>some a.isNone
 | .chn,.chan a=>some a.isNone
 | _,_=>none
def ziB (ty:NK) (x y:Value):Option Bool:=
 match zfW ty x,zfW ty y with
 | some true,some b=>some b
 | some a,some true=>some a
 | _,_=>none
def unV:UnOp→Value→Option Value
 | .neg,.int k n=>some (.int k (k.wrap (0 - n)))
 | .xor,.int k n=>some (.int k (k.wrap (BitVec.ofInt k.bits (if k.signed then -1 else k.max)^^^BitVec.ofInt k.bits n).toNat))
 | .not,.bool b=>some (.bool !b)
 | _,_=>none
def zaP (n:Option Nat) (c:List Value) (o:Nat):Option Value:=
 match n with
 | none=>c[o]?
 | some m=>if o+m≤c.length then some (.agg ((c.drop o).take m).toArray) else none
def ldV (h:Nat→Option Blk) (n:Option Nat):Value→Option Value
 | .pointer (some ⟨k,o,none⟩)=>match h k with
  | some (.cells c _)=>zaP n c o
  | _=>none
 | _=>none
def stV (h:Nat→Option Blk) (n:Nat) (v:Value):Value→Option Eff
 | .pointer (some ⟨k,o,none⟩)=>if zbt v then none else match h k with
  | some (.cells c true)=>if (zdE v).length=n∧o+n≤c.length then some (.set k (.cells (splice c o (zdE v)) true)) else none
  | _=>none
 | _=>none
def bnd (y:Nat):Value→Option Nat
 | .int _ i=>if 0≤i∧i≤y then some i.toNat else none
 | _=>none
def bnds (len cap:Nat) (lo hi mx:Option Value):Option (Nat×Nat×Nat):=
 match (match mx with | some v=>bnd cap v | none=>some cap) with
 | none=>none
 | some m=>match (match hi,mx with | some v,some _=>bnd m v | some v,none=>bnd m v | none,none=>some len | none,some _=>none) with
  | none=>none
  | some h=>match (match lo with | some v=>bnd h v | none=>some 0) with
   | none=>none
   | some l=>some (l,h,m)
def addA (a:Addr) (n:Nat):Addr:=⟨a.block,a.off+n,none⟩
def slcV (size:Nat) (x:Value) (lo hi mx:Option Value):Option Value:=
 match x with
 | .slice a len cap=>match bnds len cap lo hi mx with
  | some (l,h,m)=>some (.slice (if m=l then a else a.map (addA · (l*size))) (h - l) (m - l))
  | none=>none
 | _=>none
def first (h:Nat→Option Blk) (size n:Nat):Value→Option (List Value)
 | .slice (some ⟨k,o,none⟩) _ _=>match h k with
  | some (.cells c _)=>if o+n*size≤c.length then some ((c.drop o).take (n*size)) else none
  | _=>none
 | .slice none _ _=>some []
 | .string s=>some ((s.extract 0 n).data.toList.map fun b=> .int .u8 b.toNat)
 | _=>none
def zi6:Value→Option Nat
 | .slice _ n _=>some n
 | .string s=>some s.size
 | _=>none
def zf0:List Value→Option (List UInt8)
 | []=>some []
 | .int .u8 n::r=>(zf0 r).map (UInt8.ofNat n.toNat::·)
 | _::_=>none
def zdX:LK→Value→Value→Option Bool
 | .i,.int k a,.int k' b=>if k=k' then some (a==b) else none
 | .s,.string a,.string b=>some (a==b)
 | _,_,_=>none
def find (kt:LK) (k:Value):List (Value×Value)→Option (Option Nat)
 | []=>some none
 | e::r=>match zdX kt k e.1 with
  | some true=>some (some 0)
  | some false=>match find kt k r with
   | some (some i)=>some (some (i+1))
   | some none=>some none
   | none=>none
  | none=>none
def zeroV (z:RL) (agg:Bool):Option Value:=
 if agg then some (.agg (zaE z).toArray) else match zaE z with | [v]=>some v | _=>none
def z8 (op:IOp) (e:Opd→Value) (h:Nat→Option Blk) (nid:Nat):Option (Value×Eff):=
 match op with
 | .mv x=>some (e x,.no)
 | .pick c a b=>match e c with
  | .bool t=>some (if t then e a else e b,.no)
  | _=>none
 | .new z=>some (.pointer (some ⟨nid,0,none⟩),.push (.cells (zaE z) true))
 | .box x=>if zbt (e x) then none else some (.pointer (some ⟨nid,0,none⟩),.push (.cells (zdE (e x)) true))
 | .bld z ps=>match zgo (zaE z) (ps.map fun p=>(p.1,p.2.1,e p.2.2)) with
  | some c=>some (.agg c.toArray,.no)
  | none=>none
 | .bsl z _ len ps=>match zgo (List.replicate len (zaE z)).flatten (ps.map fun p=>(p.1,p.2.1,e p.2.2)) with
  | some c=>some (.slice (some ⟨nid,0,none⟩) len len,.push (.cells c true))
  | none=>none
 | .ld n a=>match ldV h n (e a) with
  | some v=>some (v,.no)
  | none=>none
 | .st n a v=>match stV h n (e v) (e a) with
  | some f=>some (undef,f)
  | none=>none
 | .nilc x=>match e x with
  | .pointer (some a)=>some (.pointer (some a),.no)
  | .func (.func g) f c=>some (.func (.func g) f c,.no)
  | _=>none
 | .bin op x y=>match binV op (e x) (e y) with
  | some v=>some (v,.no)
  | none=>none
 | .eqb neg x y=>match e x,e y with
  | .bool a,.bool b=>some (.bool (if neg then a !=b else a==b),.no)
  | _,_=>none
 | .eqa neg ks x y=>match e x,e y with
  | .agg a,.agg b=>match eqK (zdW ks) a.toList b.toList with
   | some r=>some (.bool (if neg then !r else r),.no)
   | none=>none
  | _,_=>none
 | .eqn neg ty x y=>match ziB ty (e x) (e y) with
  | some r=>some (.bool (if neg then !r else r),.no)
  | none=>none
 | .un op x=>match unV op (e x) with
  | some v=>some (v,.no)
  | none=>none
 | .cvi k x=>match e x with
  | .int _ n=>some (.int k (k.wrap n),.no)
  | _=>none
 | .cst x=>match e x with
  | .string s=>some (.string s,.no)
  | _=>none
 | .cbs x=>match e x with
  | .slice none _ _=>some (.string .empty,.no)
  | .slice (some ⟨k,o,none⟩) len cap=>match first h 1 len (.slice (some ⟨k,o,none⟩) len cap) with
   | some c=>match zf0 c with
    | some l=>some (.string ⟨l.toArray⟩,.no)
    | none=>none
   | none=>none
  | _=>none
 | .fad off x=>match e x with
  | .pointer (some ⟨k,o,none⟩)=>some (.pointer (some ⟨k,o+off,none⟩),.no)
  | _=>none
 | .fld n off x=>match e x with
  | .agg a=>match zaP n a.toList off with
   | some v=>some (v,.no)
   | none=>none
  | _=>none
 | .iadA len size x i=>match e x,e i with
  | .pointer (some ⟨k,o,none⟩),.int _ i=>if 0≤i∧i < len then some (.pointer (some ⟨k,o+i.toNat*size,none⟩),.no) else none
  | _,_=>none
 | .iadS size x i=>match e x,e i with
  | .slice (some ⟨k,o,none⟩) len _,.int _ i=>if 0≤i∧i < len then some (.pointer (some ⟨k,o+i.toNat*size,none⟩),.no) else none
  | _,_=>none
 | .ixA len size n x i=>match e x,e i with
  | .agg a,.int _ i=>if 0≤i∧i < len then (match zaP n a.toList (i.toNat*size) with
   | some v=>some (v,.no)
   | none=>none) else none
  | _,_=>none
 | .ixS x i=>match e x,e i with
  | .string s,.int _ i=>if 0≤i then (match s[i.toNat]? with
   | some b=>some (.int .u8 b.toNat,.no)
   | none=>none) else none
  | _,_=>none
 | .slcA len size x lo hi mx=>match e x with
  | .pointer (some ⟨k,o,none⟩)=>match slcV size (.slice (some ⟨k,o,none⟩) len len) (lo.map e) (hi.map e) (mx.map e) with
   | some v=>some (v,.no)
   | none=>none
  | _=>none
 | .slcS size x lo hi mx=>match slcV size (e x) (lo.map e) (hi.map e) (mx.map e) with
  | some v=>some (v,.no)
  | none=>none
 | .slcT x lo hi=>match e x with
  | .string s=>match bnds s.size s.size (lo.map e) (hi.map e) none with
   | some (l,h,_)=>some (.string (s.extract l h),.no)
   | none=>none
  | _=>none
 | .mks z _ bytes l c=>match e l,e c with
  | .int _ l,.int _ c=>if 0≤l∧l≤c∧bytes*c≤2^48∧c≤2^48 then
    some (.slice (some ⟨nid,0,none⟩) l.toNat c.toNat,.push (.cells (List.replicate c.toNat (zaE z)).flatten true)) else none
  | _,_=>none
 | .ext i x=>match e x with
  | .tuple vs=>match vs[i]? with
   | some v=>some (v,.no)
   | none=>none
  | _=>none
 | .lenS x=>match e x with
  | .slice _ n _=>some (.int .i64 n,.no)
  | _=>none
 | .lenT x=>match e x with
  | .string s=>some (.int .i64 s.size,.no)
  | _=>none
 | .lenM x=>match e x with
  | .map none=>some (.int .i64 0,.no)
  | .map (some r)=>match h r with
   | some (.map es)=>some (.int .i64 es.length,.no)
   | _=>none
  | _=>none
 | .lenC x=>match e x with
  | .chan (some r)=>match h r with
   | some (.chan _ b)=>some (.int .i64 b.length,.no)
   | _=>none
  | _=>none
 | .cpy size d s=>match e d,zi6 (e s) with
  | .slice a dl _,some sl=>match first h size (min sl dl) (e s) with
   | some c=>match a with
    | some ⟨k,o,none⟩=>match h k with
     | some (.cells old true)=>if o+c.length≤old.length then some (.int .i64 (min sl dl:Nat),.set k (.cells (splice old o c) true)) else none
     | _=>none
    | none=>some (.int .i64 (min sl dl:Nat),.no)
    | _=>none
   | none=>none
  | _,_=>none
 | .mm isMax x y=>match e x,e y with
  | .int k a,.int _ b=>some (.int k (if isMax then (if b > a then b else a) else (if b < a then b else a)),.no)
  | _,_=>none
 | .mkf g caps=>if caps.all fun x=>sclf0 (e x) then some (.func (.func g) #[] (caps.map e).toArray,.no) else none
 | .mkm=>some (.map (some nid),.push (.map []))
 | .mkc n=>some (.chan (some nid),.push (.chan n []))
 | .lku kt z agg ok m k=>match zeroV z agg with
  | some zv=>match e m with
   | .map none=>some (if ok then .tuple #[zv,.bool false] else zv,.no)
   | .map (some r)=>match h r with
    | some (.map es)=>match find kt (e k) es with
     | some (some i)=>match es[i]? with
      | some x=>some (if ok then .tuple #[x.2,.bool true] else x.2,.no)
      | none=>none
     | some none=>some (if ok then .tuple #[zv,.bool false] else zv,.no)
     | none=>none
    | _=>none
   | _=>none
  | none=>none
 | .mup kt m k v=>if zbt (e v) then none else match e m with
  | .map (some r)=>match h r with
   | some (.map es)=>match find kt (e k) es with
    | some (some i)=>some (undef,.set r (.map (es.set i (e k,e v))))
    | some none=>if zbt (e k) then none else some (undef,.set r (.map (es++ [(e k,e v)])))
    | none=>none
   | _=>none
  | _=>none
 | _=>none
def zbC:Value→List Nat
 | .pointer (some a)=> [a.block]
 | .slice (some a) _ _=> [a.block]
 | .map (some r)=> [r]
 | .chan (some r)=> [r]
 | _=> []
def rdE (op:IOp) (e:Opd→Value):List Nat:=op.rdl.flatMap fun x=>zbC (e x)
inductive Fnm where
  | nm (s:String)
  | no (n:Nat)
instance:Coe String Fnm:=⟨.nm⟩
abbrev zag:=Fnm→List Value→List Blk→(Value→List Blk→Prop)→Prop
def renA (ρ:Nat→Nat) (a:Addr):Addr:=⟨ρ a.block,a.off,a.spot⟩
def zew (ρ:Nat→Nat):Value→Value
 | .pointer (some a)=> .pointer (some (renA ρ a))
 | .slice (some a) l c=> .slice (some (renA ρ a)) l c
 | .map (some r)=> .map (some (ρ r))
 | .chan (some r)=> .chan (some (ρ r))
 | v=>v
def zeY (ρ:Nat→Nat):Value→Value
 | .agg a=> .agg (a.map (zew ρ))
 | v=>zew ρ v
def zaF (ρ:Nat→Nat):Value→Value
 | .tuple vs=> .tuple (vs.map (zeY ρ))
 | v=>zeY ρ v
def zbx (ρ:Nat→Nat):Blk→Blk
 | .cells c rw=> .cells (c.map (zew ρ)) rw
 | .map es=> .map (es.map fun e=>(zeY ρ e.1,zeY ρ e.2))
 | .chan n b=> .chan n (b.map (zeY ρ))
 | .iter m n seen=> .iter (ρ m) n seen
 | .gone=> .gone
def rho (sel:List Nat) (n:Nat) (i:Nat):Nat:=match sel[i]? with
 | some k=>k
 | none=>n+(i - sel.length)
def Blk.seen:Blk→Blk→Prop
 | .cells c rw,.cells c' rw'=>c=c'∧(rw=true→rw'=true)
 | .gone,_=>False
 | a,b=>a=b
def Blk.sees (a b:Blk):Prop:=Blk.seen a b∨a= .gone∧b= .gone
def Blk.hid (a b:Blk):Prop:=a= .cells [] false∧∃c rw,b= .cells c rw
def Blk.view (a b:Blk):Prop:=Blk.sees a b∨Blk.hid a b
def Blk.rw:Blk→Bool
 | .cells _ r=>r
 | _=>true
def zcl (k:Nat):List Nat→List Blk→Option Blk
 | s::ss,b::bs=>if s=k∧b.rw=true then some b else zcl k ss bs
 | _,_=>none
def zfZ (h:List Blk) (sel:List Nat) (h1:List Blk) (ρ:Nat→Nat):List Blk:=
 (h.mapIdx fun k b=>match zcl k sel h1 with
  | some b'=>zbx ρ b'
  | none=>b)++(h1.drop sel.length).map (zbx ρ)
end Go.Rh

namespace Go.Rh
abbrev Phi:=Nat→Option (Nat×Nat)
def AddrR (φ:Phi) (a a':Addr):Prop:=a.spot=none∧∃b o,φ a.block=some (b,o)∧a'=⟨b,o+a.off,none⟩
def SR (φ:Phi):Value→Value→Prop
 | .pointer (some a),v'=> ∃a',v'= .pointer (some a')∧AddrR φ a a'
 | .slice (some a) l c,v'=> ∃a',v'= .slice (some a') l c∧AddrR φ a a'
 | .map (some r),v'=> ∃b,v'= .map (some b)∧φ r=some (b,0)
 | .chan (some r),v'=> ∃b,v'= .chan (some b)∧φ r=some (b,0)
 | v,v'=>zbG v=true∧v'=v
def Each (R:Value→Value→Prop) (l l':List Value):Prop:=l.length=l'.length∧∀(i:Nat) v v',l[i]? =some v→l'[i]? =some v'→R v v'
def GR (φ:Phi):Value→Value→Prop
 | .agg a,v'=> ∃a':Array Value,v'= .agg a'∧Each (SR φ) a.toList a'.toList
 | v,v'=>SR φ v v'
def VR (φ:Phi):Value→Value→Prop
 | .tuple vs,v'=> ∃vs':Array Value,v'= .tuple vs'∧Each (GR φ) vs.toList vs'.toList
 | .complex _ _ _,_=>True
 | v,v'=>GR φ v v'
def Le (φ φ':Phi):Prop:= ∀k x,φ k=some x→φ' k=some x
theorem Le.refl (φ:Phi):Le φ φ:=fun _ _ h=>h
theorem Le.trans {φ φ' φ'':Phi} (h:Le φ φ') (k:Le φ' φ''):Le φ φ'':=fun _ _ e=>k _ _ (h _ _ e)
theorem Each.nil (R):Each R [] []:=⟨rfl,by simp⟩
theorem Each.mono {R R':Value→Value→Prop} {l l':List Value} (hR: ∀v v',R v v'→R' v v') (h:Each R l l'):Each R' l l':=⟨h.1,fun i v v' a b=>hR _ _ (h.2 i v v' a b)⟩
theorem Each.get {R} {l l':List Value} (h:Each R l l') {i:Nat} {v:Value} (hv:l[i]? =some v): ∃v',l'[i]? =some v'∧R v v':=by
 have hi:i < l.length:=by
  rcases Nat.lt_or_ge i l.length with h | h
  ·exact h
  ·simp [List.getElem?_eq_none h] at hv
 have hi':i < l'.length:=h.1▸hi
 exact ⟨l'[i],by simp [hi'],h.2 i v _ hv (by simp [hi'])⟩
theorem Each.cons {R} {v v':Value} {l l':List Value} (h:R v v') (hl:Each R l l'):Each R (v::l) (v'::l'):=by
 refine ⟨by simp [hl.1],fun i=>?_⟩
 cases i with
 | zero=>intro a b ha hb;simp at ha hb;subst ha;subst hb;exact h
 | succ i=>simpa using hl.2 i
theorem Each.head {R} {v v':Value} {l l':List Value} (h:Each R (v::l) (v'::l')):R v v':=h.2 0 v v' rfl rfl
theorem Each.tail {R} {v v':Value} {l l':List Value} (h:Each R (v::l) (v'::l')):Each R l l':=⟨by have:=h.1;simpa using this,fun i a b ha hb=>h.2 (i+1) a b (by simpa using ha) (by simpa using hb)⟩
theorem Each.take {R} {l l':List Value} (h:Each R l l') (n:Nat):Each R (l.take n) (l'.take n):=by
 refine ⟨by simp [h.1],fun i v v' a b=>?_⟩
 rw [List.getElem?_take] at a b
 split at a<;>simp_all
 exact h.2 i v v' a b
theorem Each.drop {R} {l l':List Value} (h:Each R l l') (n:Nat):Each R (l.drop n) (l'.drop n):=by
 refine ⟨by simp [h.1],fun i v v' a b=>?_⟩
 rw [List.getElem?_drop] at a b
 exact h.2 _ v v' a b
theorem Each.append {R} {l l' m m':List Value} (h:Each R l l') (k:Each R m m'):Each R (l++m) (l'++m'):=by
 refine ⟨by simp [h.1,k.1],fun i v v' a b=>?_⟩
 rw [List.getElem?_append] at a b
 rw [h.1] at a
 split at a
 ·rename_i hlt;rw [if_pos hlt] at b;exact h.2 i v v' a b
 ·rename_i hlt;rw [if_neg hlt] at b;exact k.2 _ v v' a b
theorem Each.splice {R} {l l' m m':List Value} (h:Each R l l') (k:Each R m m') (o:Nat):Each R (splice l o m) (splice l' o m'):=by
 unfold Go.Rh.splice
 rw [←k.1]
 exact ((h.take o).append k).append (h.drop _)
theorem Each.all {R} {l l':List Value} (h:Each R l l') {p:Value→Prop} (hp: ∀v v',R v v'→p v'): ∀v'∈l',p v':=by
 intro v' hv'
 obtain ⟨i,hi,rfl⟩:=List.mem_iff_getElem.1 hv'
 have hi':i < l.length:=by rw [h.1];exact hi
 exact hp _ _ (h.2 i l[i] l'[i] (by simp [hi']) (by simp [hi]))
theorem Each.replicate {R} {v v':Value} (h:R v v') (n:Nat):Each R (List.replicate n v) (List.replicate n v'):=by
 refine ⟨by simp,fun i a b ha hb=>?_⟩
 rw [List.getElem?_replicate] at ha hb
 split at ha<;>simp_all
theorem Each.refl_of {R:Value→Value→Prop} {l:List Value} (h: ∀v∈l,R v v):Each R l l:=
 ⟨rfl,fun i v v' a b=>by rw [a] at b;cases b;exact h v (List.mem_of_getElem? a)⟩
theorem Each.set {R} {l l':List Value} (h:Each R l l') {v v':Value} (hv:R v v') (o:Nat):Each R (l.set o v) (l'.set o v'):=by
 refine ⟨by simp [h.1],fun i a b ha hb=>?_⟩
 rw [List.getElem?_set] at ha hb
 rw [h.1] at ha
 split at ha
 ·rename_i e;rw [if_pos e] at hb;split at ha
  ·rename_i hlt;rw [if_pos hlt] at hb;cases ha;cases hb;exact hv
  ·cases ha
 ·rename_i e;rw [if_neg e] at hb;exact h.2 i a b ha hb
theorem AddrR.mono {φ φ':Phi} (h:Le φ φ') {a a':Addr} :AddrR φ a a'→AddrR φ' a a':=fun ⟨x,b,o,y,z⟩=>⟨x,b,o,h _ _ y,z⟩
theorem SR.mono {φ φ':Phi} (h:Le φ φ') {v v':Value} (r:SR φ v v'):SR φ' v v':=by
 unfold SR at*
 split at r
 ·obtain ⟨a',rfl,r⟩:=r;exact ⟨a',rfl,r.mono h⟩
 ·obtain ⟨a',rfl,r⟩:=r;exact ⟨a',rfl,r.mono h⟩
 ·obtain ⟨a',rfl,r⟩:=r;exact ⟨a',rfl,h _ _ r⟩
 ·obtain ⟨a',rfl,r⟩:=r;exact ⟨a',rfl,h _ _ r⟩
 ·exact r
theorem GR.mono {φ φ':Phi} (h:Le φ φ') {v v':Value} (r:GR φ v v'):GR φ' v v':=by
 cases v<;>simp only [GR] at r ⊢<;>first | exact SR.mono h r | (obtain ⟨a',rfl,r⟩:=r;exact ⟨a',rfl,r.mono fun _ _=>SR.mono h⟩)
theorem VR.mono {φ φ':Phi} (h:Le φ φ') {v v':Value} (r:VR φ v v'):VR φ' v v':=by
 cases v<;>simp only [VR] at r ⊢<;>first | trivial | exact GR.mono h r | (obtain ⟨a',rfl,r⟩:=r;exact ⟨a',rfl,r.mono fun _ _=>GR.mono h⟩)
theorem GR.of_SR {φ:Phi} {v v':Value} (r:SR φ v v'):GR φ v v':=by
 cases v<;>simp only [GR]<;>first | exact r | (simp [SR,zbG] at r)
theorem VR.of_GR {φ:Phi} {v v':Value} (r:GR φ v v'):VR φ v v':=by
 cases v<;>simp only [VR]<;>first | trivial | exact r | (simp [GR,SR,zbG] at r)
theorem GR.of_VR {φ:Phi} {v v':Value} (ht:zbt v=false) (r:VR φ v v'):GR φ v v':=by
 cases v<;>simp only [VR,zbt] at r ht<;>first | exact r | cases ht
theorem SR.of_sclf {φ:Phi} {v:Value} (h:zbG v=true):SR φ v v:=by
 unfold SR;split<;>simp_all [zbG]
theorem GR.of_aggf {φ:Phi} {v:Value} (h:aggf v=true):GR φ v v:=by
 cases v<;>simp only [GR,aggf] at h ⊢<;>first | exact SR.of_sclf h | exact ⟨_,rfl,Each.refl_of fun v hv=>SR.of_sclf (List.all_eq_true.1 h v hv)⟩
theorem VR.of_vpf {φ:Phi} {v:Value} (h:vpf v=true):VR φ v v:=by
 cases v<;>simp only [VR,vpf] at h ⊢<;>first | trivial | exact GR.of_aggf h | exact ⟨_,rfl,Each.refl_of fun v hv=>GR.of_aggf (List.all_eq_true.1 h v hv)⟩
theorem SR.eq_of_sclf {φ:Phi} {v v':Value} (h:zbG v=true) (r:SR φ v v'):v'=v:=by
 unfold SR at r;split at r<;>simp_all [zbG]
theorem SR.one {φ:Phi} {v v':Value} (r:SR φ v v'):v'.oneCell'=true:=by
 unfold SR at r
 split at r
 ·obtain ⟨a',rfl,_⟩:=r;rfl
 ·obtain ⟨a',rfl,_⟩:=r;rfl
 ·obtain ⟨a',rfl,_⟩:=r;rfl
 ·obtain ⟨a',rfl,_⟩:=r;rfl
 ·obtain ⟨h,rfl⟩:=r
  cases v'<;>simp_all [zbG,Value.oneCell']
theorem GR.cells {φ:Phi} {v v':Value} (r:GR φ v v'):Each (SR φ) (zdE v) v'.cells.toList:=by
 cases v<;>simp only [GR] at r
 case agg a=>obtain ⟨a',rfl,r⟩:=r;exact r
 all_goals
  have hc:v'.cells= #[v']:=by have:=r.one;cases v'<;>simp_all [Value.oneCell',Value.cells]
  rw [hc];exact Each.cons r (Each.nil _)
def BR (φ:Phi) (w:World) (b o:Nat):Blk→Prop
 | .cells c rw=> ∃c' T fr,w.heap[b]? =some (.cells c' T fr)∧o+c.length≤c'.size∧Each (SR φ) c ((c'.toList.drop o).take c.length)∧
   (rw=true→o=0∧c'.size=c.length∧∀i,i < c'.size→¬(fr.1≤i∧i < fr.2))
 | .map es=>o=0∧∃ms clock,w.heap[b]? =some (.map ms clock)∧Each (GR φ) (es.map (·.1)) (ms.toList.map (·.key))∧Each (GR φ) (es.map (·.2)) (ms.toList.map (·.val))∧
   ms.toList.map (·.born)=List.range ms.size∧clock=ms.size
 | .chan cap buf=>o=0∧∃buf' s r,w.heap[b]? =some (.chan cap buf' false s r false)∧Each (GR φ) buf buf'.toList
 | .iter m n seen=>o=0∧∃bm,φ m=some (bm,0)∧w.heap[b]? =some (.mapIter (some bm) n seen.toArray n)
 | .gone=>False
structure HR (φ:Phi) (h:Nat→Option Blk) (w:World):Prop where
  has: ∀k blk,h k=some blk→∃b o,φ k=some (b,o)∧BR φ w b o blk
  nil: ∀k,h k=none→φ k=none
  apart: ∀k k' blk b o b' o',k≠k'→h k=some blk→blk.rw=true→φ k=some (b,o)→φ k'=some (b',o')→b≠b'
theorem BR.mono {φ φ':Phi} (hl:Le φ φ') {w:World} {b o:Nat} {blk:Blk} (h:BR φ w b o blk):BR φ' w b o blk:=by
 cases blk with
 | cells c rw=>obtain ⟨c',T,fr,h1,h2,h3,h4⟩:=h;exact ⟨c',T,fr,h1,h2,h3.mono fun _ _=>SR.mono hl,h4⟩
 | map es=>obtain ⟨h0,ms,cl,h1,h2,h3,h4,h5⟩:=h;exact ⟨h0,ms,cl,h1,h2.mono fun _ _=>GR.mono hl,h3.mono fun _ _=>GR.mono hl,h4,h5⟩
 | chan n bf=>obtain ⟨h0,b',s,r,h1,h2⟩:=h;exact ⟨h0,b',s,r,h1,h2.mono fun _ _=>GR.mono hl⟩
 | iter m n seen=>obtain ⟨h0,bm,h1,h2⟩:=h;exact ⟨h0,bm,hl _ _ h1,h2⟩
 | gone=>exact h.elim
theorem BR.congr {φ:Phi} {w w':World} {b o:Nat} {blk:Blk} (e:w'.heap[b]? =w.heap[b]?) (h:BR φ w b o blk):BR φ w' b o blk:=by
 cases blk<;>simp only [BR] at h ⊢<;>rw [e]<;>exact h
theorem BR.lt {φ:Phi} {w:World} {b o:Nat} {blk:Blk} (h:BR φ w b o blk):b < w.heap.size:=by
 have: ∃x,w.heap[b]? =some x:=by
  cases blk with
  | cells c rw=>obtain ⟨c',T,fr,h1,_⟩:=h;exact ⟨_,h1⟩
  | map es=>obtain ⟨h0,ms,cl,h1,_⟩:=h;exact ⟨_,h1⟩
  | chan n bf=>obtain ⟨h0,b',s,r,h1,_⟩:=h;exact ⟨_,h1⟩
  | iter m n seen=>obtain ⟨h0,bm,h1,h2⟩:=h;exact ⟨_,h2⟩
  | gone=>exact h.elim
 obtain ⟨x,hx⟩:=this
 rcases Nat.lt_or_ge b w.heap.size with h | h
 ·exact h
 ·simp [Array.getElem?_eq_none h] at hx
theorem HR.lt {φ:Phi} {h:Nat→Option Blk} {w:World} (H:HR φ h w) {k b o:Nat} (e:φ k=some (b,o)):b < w.heap.size:=by
 cases hk:h k with
 | none=>rw [H.nil k hk] at e;cases e
 | some blk=>
  obtain ⟨b1,o1,e1,r⟩:=H.has k blk hk
  rw [e] at e1;cases e1
  exact r.lt
def zdr {α:Type} (h:Nat→Option α) (k:Nat) (b:α):Nat→Option α:=fun j=>if j=k then some b else h j
def Eff.onF (h:Nat→Option Blk) (nid:Nat):Eff→Nat→Option Blk
 | .no=>h
 | .set k b=>zdr h k b
 | .push b=>zdr h nid b
theorem Le.upd {φ:Phi} {n:Nat} (hn:φ n=none) (x:Nat×Nat):Le φ (zdr φ n x):=by
 intro k y e
 unfold zdr
 split
 ·rename_i h;subst h;rw [hn] at e;cases e
 ·exact e
structure Fr (φ:Phi) (h:Nat→Option Blk) (w:World) (φ':Phi) (h':Nat→Option Blk) (w':World):Prop where
  size:w.heap.size≤w'.heap.size
  keep: ∀b,b < w.heap.size→(∀k blk o,h k=some blk→blk.rw=true→φ k≠some (b,o))→w'.heap[b]? =w.heap[b]?
  os:w'.os=w.os
  tape:w'.tape=w.tape
  output:w'.output=w.output
  le:Le φ φ'
  new: ∀k b o,φ' k=some (b,o)→φ k=some (b,o)∨w.heap.size≤b
  own: ∀k blk,h' k=some blk→blk.rw=true→(∃blk0,h k=some blk0∧blk0.rw=true)∨h k=none
  flags: ∀k b b',h k=some b→h' k=some b'→b'.rw=b.rw
theorem Fr.same (φ:Phi) (h:Nat→Option Blk) (w:World):Fr φ h w φ h w:=
 ⟨Nat.le_refl _,fun _ _ _=>rfl,rfl,rfl,rfl,Le.refl _,fun _ _ _ e=> .inl e,fun k blk e r=> .inl ⟨blk,e,r⟩,fun _ _ _ h1 h2=>by rw [h1] at h2;cases h2;rfl⟩
theorem HR.push {φ:Phi} {h:Nat→Option Blk} {w:World} (H:HR φ h w) {n:Nat} (hn:h n=none) (obj:Obj) (blk:Blk)
  (hb:BR (zdr φ n (w.heap.size,0)) (w.alloc obj) w.heap.size 0 blk):
  HR (zdr φ n (w.heap.size,0)) (zdr h n blk) (w.alloc obj)∧Fr φ h w (zdr φ n (w.heap.size,0)) (zdr h n blk) (w.alloc obj):=by
 have hφ:=H.nil n hn
 refine ⟨⟨?_, ?_, ?_⟩, ?_⟩
 ·intro k b e
  unfold zdr at e ⊢
  by_cases hk:k=n
  ·subst hk;simp at e ⊢;subst e;exact ⟨_,_,⟨rfl,rfl⟩,hb⟩
  ·simp [hk] at e ⊢
   obtain ⟨b',o',e',r⟩:=H.has k b e
   refine ⟨b',o',e',(r.congr ?_).mono (Le.upd hφ _)⟩
   exact Go.RowKit.Below.heap_alloc w obj b' r.lt
 ·intro k e
  unfold zdr at e ⊢
  by_cases hk:k=n
  ·simp [hk] at e
  ·simp [hk] at e ⊢;exact H.nil k e
 ·intro k k' b b1 o1 b2 o2 hne e hrw e1 e2
  unfold zdr at e e1 e2
  by_cases hk:k=n
  ·subst hk
   have hk': ¬k'=k:=fun h=>hne h.symm
   simp at e1;simp [hk'] at e2
   have:=H.lt e2
   omega
  ·simp [hk] at e e1
   by_cases hk':k'=n
   ·subst hk';simp at e2;have:=H.lt e1;omega
   ·simp [hk'] at e2;exact H.apart k k' b b1 o1 b2 o2 hne e hrw e1 e2
 ·refine ⟨by simp,fun b hb _=>Go.RowKit.Below.heap_alloc w obj b hb,rfl,rfl,rfl,Le.upd hφ _, ?_, ?_, ?_⟩
  ·intro k b o e
   unfold zdr at e
   split at e
   ·cases e;exact .inr (Nat.le_refl _)
   ·exact .inl e
  ·intro k b e r
   unfold zdr at e
   split at e
   ·rename_i hk;subst hk;exact .inr hn
   ·exact .inl ⟨b,e,r⟩
  ·intro k b b' h1 h2
   unfold zdr at h2
   split at h2
   ·rename_i hk;subst hk;rw [hn] at h1;cases h1
   ·rw [h1] at h2;cases h2;rfl
theorem HR.set {φ:Phi} {h:Nat→Option Blk} {w:World} (H:HR φ h w) {k:Nat} {blk blk':Blk} {b o:Nat} {w':World} (hk:h k=some blk) (hrw:blk.rw=true) (hφ:φ k=some (b,o))
  (hb:BR φ w' b o blk') (hrw':blk'.rw=true) (hs:w'.heap.size=w.heap.size) (ho: ∀j,j≠b→w'.heap[j]? =w.heap[j]?) (h1:w'.os=w.os) (h2:w'.tape=w.tape) (h3:w'.output=w.output):
  HR φ (zdr h k blk') w'∧Fr φ h w φ (zdr h k blk') w':=by
 refine ⟨⟨?_, ?_, ?_⟩, ?_⟩
 ·intro j bj e
  unfold zdr at e
  split at e
  ·rename_i hj;subst hj;cases e;exact ⟨b,o,hφ,hb⟩
  ·rename_i hj
   obtain ⟨b',o',e',r⟩:=H.has j bj e
   exact ⟨b',o',e',r.congr (ho _ (H.apart k j blk b o b' o' (fun e=>hj e.symm) hk hrw hφ e').symm)⟩
 ·intro j e
  unfold zdr at e
  split at e
  ·cases e
  ·exact H.nil j e
 ·intro j j' bj b1 o1 b2 o2 hne e hr e1 e2
  unfold zdr at e
  split at e
  ·rename_i hj;subst hj;exact H.apart j j' blk b1 o1 b2 o2 hne hk hrw e1 e2
  ·exact H.apart j j' bj b1 o1 b2 o2 hne e hr e1 e2
 ·refine ⟨om,fun j _ hx=>ho j fun e=>hx k blk o hk hrw (e▸hφ),h1,h2,h3,Le.refl _,fun _ _ _ e=> .inl e, ?_, ?_⟩
  rotate_left
  ·intro j b1 b2 e1 e2
   unfold zdr at e2
   split at e2
   ·rename_i hj;subst hj;rw [hk] at e1;cases e1;cases e2;rw [hrw,hrw']
   ·rw [e1] at e2;cases e2;rfl
  intro j bj e r
  unfold zdr at e
  split at e
  ·rename_i hj;subst hj;exact .inl ⟨blk,hk,hrw⟩
  ·exact .inl ⟨bj,e,r⟩
end Go.Rh

namespace Go.Rh
def Runs (P:Program) (o:Oper) (a:Act) (w:World) (v':Value) (w':World):Prop:=
 (execOp a.eval o).run P w= .ok (.value v') w'∨((execOp a.eval o).run P w= .ok .skip w'∧v'=undef)
def Does (P:Program) (o:Oper) (a:Act) (w:World) (φ:Phi) (h:Nat→Option Blk) (n:Nat) (v:Value) (f:Eff):Prop:=
 ∃φ' v' w',Runs P o a w v' w'∧VR φ' v v'∧HR φ' (f.onF h n) w'∧Fr φ h w φ' (f.onF h n) w'
section
variable {P:Program} {o:Oper} {a:Act} {w:World} {φ:Phi} {h:Nat→Option Blk} {n:Nat} {e:Opd→Value}
theorem Does.same (H:HR φ h w) {v v':Value} (hr:(execOp a.eval o).run P w= .ok (.value v') w) (hv:VR φ v v'):Does P o a w φ h n v .no:=
 ⟨φ,v',w,.inl hr,hv,H,Fr.same _ _ _⟩
theorem Does.push (H:HR φ h w) (hn:h n=none) {v v':Value} {blk:Blk} (obj:Obj) (hr:(execOp a.eval o).run P w= .ok (.value v') (w.alloc obj))
  (hb:BR (zdr φ n (w.heap.size,0)) (w.alloc obj) w.heap.size 0 blk) (hv:VR (zdr φ n (w.heap.size,0)) v v'):Does P o a w φ h n v (.push blk):=
 let ⟨h1,h2⟩:=H.push hn obj blk hb
 ⟨_,v',_,.inl hr,hv,h1,h2⟩
theorem sameScl_eq {v u:Value} (h:sameScl v u=true):v=u:=by
 unfold sameScl at h
 split at h<;>simp_all
theorem zcD: ∀l:List Value,zaE (zhP l)=l
 | []=>rfl
 | v::r=>by
  have ih:=zcD r
  unfold zhP
  split
  ·rename_i m u q hc
   rw [hc] at ih
   split
   ·rename_i hs;rw [sameScl_eq hs];simp only [zaE,List.replicate_succ,List.cons_append] at ih ⊢;rw [ih]
   ·simp only [zaE] at ih ⊢;rw [ih];rfl
  ·rename_i hc
   rw [hc] at ih
   simp only [zaE] at ih ⊢
   rw [←ih];rfl
theorem zbr {t:TypeId} {z:RL} (h:zbM P t=some z): ∃i zv,P.info? t=some i∧i.zero=some zv∧zv.cells.toList=zaE z∧(∀v∈zaE z,zbG v=true)∧i.size=(zaE z).length:=by
 unfold zbM at h
 split at h<;>try cases h
 rename_i i hi
 split at h<;>try cases h
 rename_i zv hz
 split at h<;>try cases h
 rename_i hc
 simp only [Bool.and_eq_true,List.all_eq_true,beq_iff_eq] at hc
 refine ⟨i,zv,hi,hz,(zcD _).symm, ?_, ?_⟩
 ·intro v hv;rw [zcD] at hv;exact hc.1 v hv
 ·rw [zcD];simp [hc.2]
theorem zbo {t:TypeId} {i:TypeInfo} (h:P.info? t=some i) (w:World):(typeInfo t).run P w= .ok i w:=by
 simp [typeInfo,h]
theorem zas {t:TypeId} {i:TypeInfo} {z:Value} (h:P.info? t=some i) (hz:i.zero=some z) (w:World):(zeroValue t).run P w= .ok z w:=by
 simp [zeroValue,zbo h,hz]
theorem zbf {t:TypeId} {i:TypeInfo} (h:P.info? t=some i) (w:World):(sizeOf t).run P w= .ok i.size w:=by
 simp [sizeOf,zbo h]
theorem zeS {t:TypeId} {s:Nat} (h:zeT P t=some s): ∃i,P.info? t=some i∧i.size=s:=by
 unfold zeT at h
 cases hi:P.info? t with
 | none=>rw [hi] at h;cases h
 | some i=>rw [hi] at h;simp at h;exact ⟨i,rfl,h⟩
theorem zal {t:TypeId} {s:Nat} (h:zeT P t=some s) (w:World):(sizeOf t).run P w= .ok s w:=by
 obtain ⟨i,hi,rfl⟩:=zeS h;exact zbf hi w
theorem ldn_spec {t:TypeId} {m:Option Nat} (h:ldn P t=some m): ∃d i,P.underlying t=some d∧P.info? t=some i∧m=if zfB d then some i.size else none:=by
 unfold ldn at h
 split at h<;>try cases h
 rename_i d i hd hi
 exact ⟨d,i,hd,hi,rfl⟩
theorem zdl {t:TypeId} {d:TypeDesc} (h:P.underlying t=some d) (w:World):(isAgg t).run P w= .ok (zfB d) w:=by
 unfold isAgg
 rw [Sem.run_bind,run_underlying h w]
 cases d<;>rfl
theorem BR.new {cs:Array Value} {c:List Value} {T:TypeId} (h:Each (SR φ) c cs.toList) (rw':Bool):BR φ (w.alloc (.cells cs T)) w.heap.size 0 (.cells c rw'):=by
 have hl:cs.size=c.length:=by have:=h.1;simp at this;omega
 refine ⟨cs,T,(0,0),heap_alloc_new w _,by simp [hl], ?_,fun _=>⟨rfl,hl,fun i _=>by simp⟩⟩
 rw [List.drop_zero,List.take_of_length_le (by simp [hl])]
 exact h
theorem ptr_new:VR (zdr φ n (w.heap.size,0)) (.pointer (some ⟨n,0,none⟩)) (.pointer (some ⟨w.heap.size,0,none⟩)):=
 ⟨_,rfl,rfl,w.heap.size,0,by simp [zdr],by simp⟩
theorem does_mv {x:Operand} {y:Opd} (he: ∀x y,opd x=some y→VR φ (e y) (a.eval x)) (H:HR φ h w) (ho:o.op= .move x∨o.op= .assign x) (hx:opd x=some y):Does P o a w φ h n (e y) .no:=by
 refine Does.same H (v':=a.eval x) ?_ (he _ _ hx)
 rcases ho with ho | ho<;>simp [execOp,ho]
theorem VR.bool {b:Bool} {v':Value} (h:VR φ (.bool b) v'):v'= .bool b:=h.2
theorem VR.int {k:IntKind} {m:Int} {v':Value} (h:VR φ (.int k m) v'):v'= .int k m:=h.2
theorem VR.string {s:ByteArray} {v':Value} (h:VR φ (.string s) v'):v'= .string s:=h.2
theorem VR.pointer {x:Addr} {v':Value} (h:VR φ (.pointer (some x)) v'): ∃x',v'= .pointer (some x')∧AddrR φ x x':=h
theorem VR.slice {x:Addr} {l c:Nat} {v':Value} (h:VR φ (.slice (some x) l c) v'): ∃x',v'= .slice (some x') l c∧AddrR φ x x':=h
theorem VR.sliceNil {l c:Nat} {v':Value} (h:VR φ (.slice none l c) v'):v'= .slice none l c:=h.2
theorem VR.agg {x:Array Value} {v':Value} (h:VR φ (.agg x) v'): ∃x',v'= .agg x'∧Each (SR φ) x.toList x'.toList:=h
theorem VR.map {r:Nat} {v':Value} (h:VR φ (.map (some r)) v'): ∃b,v'= .map (some b)∧φ r=some (b,0):=h
theorem VR.mapNil {v':Value} (h:VR φ (.map none) v'):v'= .map none:=h.2
theorem VR.chan {r:Nat} {v':Value} (h:VR φ (.chan (some r)) v'): ∃b,v'= .chan (some b)∧φ r=some (b,0):=h
theorem VR.tuple {x:Array Value} {v':Value} (h:VR φ (.tuple x) v'): ∃x',v'= .tuple x'∧Each (GR φ) x.toList x'.toList:=h
theorem VR.mkBool (b:Bool):VR φ (.bool b) (.bool b):=⟨rfl,rfl⟩
theorem VR.mkInt (k:IntKind) (m:Int):VR φ (.int k m) (.int k m):=⟨rfl,rfl⟩
theorem VR.mkString (s:ByteArray):VR φ (.string s) (.string s):=⟨rfl,rfl⟩
theorem VR.undef:VR φ undef undef:=⟨_,rfl,Each.nil _⟩
theorem does_pick {c x y:Operand} {c' x' y':Opd} {t:Bool} (he: ∀x y,opd x=some y→VR φ (e y) (a.eval x)) (H:HR φ h w) (ho:o.op= .pick c x y) (hc:opd c=some c') (hx:opd x=some x') (hy:opd y=some y')
  (ht:e c'= .bool t):Does P o a w φ h n (if t then e x' else e y') .no:=by
 have h1:=he _ _ hc
 rw [ht] at h1
 refine Does.same H (v':=if t then a.eval x else a.eval y) ?_ ?_
 ·simp [execOp,ho,h1.bool,asBool]
 ·cases t
  ·exact he _ _ hy
  ·exact he _ _ hx
theorem does_new {t:TypeId} {z:RL} (H:HR φ h w) (hn:h n=none) (ho:o.op= .alloc t) (hz:zbM P t=some z):
  Does P o a w φ h n (.pointer (some ⟨n,0,none⟩)) (.push (.cells (zaE z) true)):=by
 obtain ⟨i,zv,hi,hzv,hc,hp,_⟩:=zbr hz
 refine Does.push H hn (.cells zv.cells t) ?_ ?_ ptr_new
 ·simp [execOp,ho,Instr.alloc,zas hi hzv,newVar,newRow]
 ·exact BR.new (by rw [hc];exact Each.refl_of fun v hv=>SR.of_sclf (hp v hv)) true
theorem does_box {t:TypeId} {x:Operand} {y:Opd} (he: ∀x y,opd x=some y→VR φ (e y) (a.eval x)) (H:HR φ h w) (hn:h n=none) (ho:o.op= .box t x) (hx:opd x=some y) (ht:zbt (e y)=false):
  Does P o a w φ h n (.pointer (some ⟨n,0,none⟩)) (.push (.cells (zdE (e y)) true)):=by
 refine Does.push H hn (.cells (a.eval x).cells t) ?_ ?_ ptr_new
 ·simp [execOp,ho,Instr.box,newVar,newRow]
 ·exact BR.new (((GR.of_VR ht (he _ _ hx)).mono (Le.upd (H.nil n hn) _)).cells) true
theorem zfx: ∀(ps:List (Nat×Nat×Value)) (cs r:List Value),zgo cs ps=some r→∀(cs':List Value) (rs:List (Nat×Value)) (pl:Nat→Option (Nat×Nat)),Each (SR φ) cs cs'→
  ps.length=rs.length→(∀(j:Nat) p q,ps[j]? =some p→rs[j]? =some q→pl q.1=some (p.1,p.2.1)∧VR φ p.2.2 q.2)→
  ∃r',Instr.fill pl cs'.toArray rs=some r'∧Each (SR φ) r r'.toList
 | [],cs,r,hf,cs',rs,pl,hc,hl,hp=>by
  cases rs with
  | nil=>simp [zgo] at hf;subst hf;exact ⟨_,rfl,by simpa using hc⟩
  | cons _ _=>simp at hl
 | (o,s,v)::ps,cs,r,hf,cs',rs,pl,hc,hl,hp=>by
  cases rs with
  | nil=>simp at hl
  | cons q rs=>
   obtain ⟨i,u⟩:=q
   simp only [zgo] at hf
   split at hf<;>try cases hf
   rename_i hk
   obtain ⟨ht,hs,hb⟩:=hk
   obtain ⟨hpl,hv⟩:=hp 0 (o,s,v) (i,u) rfl rfl
   have hcell:=(GR.of_VR ht hv).cells
   have hsz:u.cells.size=s:=by have:=hcell.1;simp at this;omega
   have hcs:cs'.length=cs.length:=hc.1.symm
   have key:(u.cells.zipIdx.foldl (fun cs x=>cs.setIfInBounds (o+x.2) x.1) cs'.toArray)=(splice cs' o u.cells.toList).toArray:=by
    have gen: ∀(l:List Value) (k:Nat) (c:List Value),o+k+l.length≤c.length→
      ((l.zipIdx k).foldl (fun cs x=>cs.setIfInBounds (o+x.2) x.1) c.toArray)=(splice c (o+k) l).toArray:=by
     intro l
     induction l with
     | nil=>intro k c _;simp [splice]
     | cons x l ih=>
      intro k c hlen
      simp only [List.zipIdx_cons,List.foldl_cons]
      have:(c.toArray.setIfInBounds (o+k) x)=(c.set (o+k) x).toArray:=by simp
      rw [this,ih (k+1) _ (by simp at hlen ⊢;omega)]
      congr 1
      simp only [List.length_cons] at hlen
      unfold splice
      rw [show o+(k+1)=o+k+1 by omega]
      rw [List.take_add_one,List.take_set_of_le om]
      simp only [List.length_cons]
      have h1:(c.set (o+k) x)[o+k]?.toList= [x]:=by
       rw [List.getElem?_set_self om];rfl
      rw [h1,List.drop_set_of_lt om]
      simp only [List.append_assoc,List.singleton_append,List.cons_append,List.nil_append]
      rw [show o+k+1+l.length=o+k+(l.length+1) by omega]
    have:=gen u.cells.toList 0 cs' (by simp [hsz];omega)
    simp only [Nat.add_zero] at this
    rw [←this,←Array.foldl_toList]
    congr 1
    simp
   have hstep:Instr.fill pl cs'.toArray ((i,u)::rs)=Instr.fill pl (splice cs' o u.cells.toList).toArray rs:=by
    simp only [Instr.fill,hpl]
    rw [if_neg (by simp [hsz];omega),key]
   rw [hstep]
   exact zfx ps _ r hf _ rs pl (hc.splice hcell o) (by simpa using hl) (fun j p q hp' hq'=>hp (j+1) p q (by simpa using hp') (by simpa using hq'))
theorem zdL (pl:Nat→Option (Nat×Nat)) (he: ∀x y,opd x=some y→VR φ (e y) (a.eval x)): ∀(ps:List (Nat×Operand)) (qs:List (Nat×Nat×Opd)),zfU pl ps=some qs→
  (qs.map fun p=>(p.1,p.2.1,e p.2.2)).length=(ps.map fun x=>(x.1,a.eval x.2)).length∧
  ∀(j:Nat) p q,(qs.map fun p=>(p.1,p.2.1,e p.2.2))[j]? =some p→(ps.map fun x=>(x.1,a.eval x.2))[j]? =some q→pl q.1=some (p.1,p.2.1)∧VR φ p.2.2 q.2
 | [],qs,hq=>by simp [zfU] at hq;subst hq;simp
 | (i,x)::ps,qs,hq=>by
  simp only [zfU] at hq
  split at hq<;>try cases hq
  rename_i o s y l hpl hx hl
  obtain ⟨h1,h2⟩:=zdL pl he ps l hl
  refine ⟨by simpa using h1,fun j=>?_⟩
  cases j with
  | zero=>intro p q hp hq;simp at hp hq;subst hp;subst hq;exact ⟨hpl,he _ _ hx⟩
  | succ j=>intro p q hp hq;exact h2 j p q (by simpa using hp) (by simpa using hq)
theorem zeV (w:World): ∀(fs:List Field) (pl:List (Nat×Nat)),zit P fs=some pl→(fs.mapM (fun f=>do pure (f.offset,←sizeOf f.type):Field→Sem (Nat×Nat))).run P w= .ok pl w
 | [],pl,h=>by simp [zit] at h;subst h;simp
 | f::fs,pl,h=>by
  simp only [zit,List.mapM_cons] at h
  cases h1:zeT P f.type with
  | none=>simp [h1] at h
  | some s=>
   cases h2:zit P fs with
   | none=>simp only [zit] at h2;simp [h1,h2] at h
   | some q=>
    have h2':=h2
    simp only [zit] at h2'
    simp [h1,h2'] at h
    subst h
    have ih:=zeV w fs q h2
    simp only [bind_pure_comp] at ih ⊢
    simp [List.mapM_cons,zal h1,ih]
theorem does_bld {t:TypeId} {ps:Array (Nat×Operand)} {z:RL} {qs:List (Nat×Nat×Opd)} {c:List Value} (he: ∀x y,opd x=some y→VR φ (e y) (a.eval x)) (H:HR φ h w) (ho:o.op= .build t ps)
  (hc:cOp P o= .bld z qs) (hf:zgo (zaE z) (qs.map fun p=>(p.1,p.2.1,e p.2.2))=some c):Does P o a w φ h n (.agg c.toArray) .no:=by
 simp only [cOp,ho] at hc
 split at hc
 ·rename_i fs z' hu hz
  split at hc<;>try cases hc
  rename_i pl hpl
  split at hc<;>try cases hc
  rename_i l hl
  obtain ⟨i,zv,hi,hzv,hcz,hp,_⟩:=zbr hz
  obtain ⟨h1,h2⟩:=zdL _ he _ _ hl
  obtain ⟨r',hr,hE⟩:=zfx (φ:=φ) _ _ _ hf zv.cells.toList (ps.toList.map fun x=>(x.1,a.eval x.2)) (pl[·]?) (by rw [hcz];exact Each.refl_of fun v hv=>SR.of_sclf (hp v hv)) h1 h2
  refine Does.same H (v':= .agg r') ?_ ⟨r',rfl,by simpa using hE⟩
  have hpl':=zeV w fs.toList pl hpl
  have hr':Instr.fill (fun x=>pl[x]?) zv.cells (ps.toList.map fun x=>(x.1,a.eval x.2))=some r':=by simpa using hr
  simp only [bind_pure_comp] at hpl'
  simp [execOp,ho,Instr.build,zas hi hzv,run_underlying hu,Array.mapM_eq_mapM_toList,hpl',hr']
 ·rename_i len el z' hu hz
  split at hc<;>try cases hc
  rename_i s hs
  split at hc<;>try cases hc
  rename_i l hl
  obtain ⟨i,zv,hi,hzv,hcz,hp,_⟩:=zbr hz
  obtain ⟨h1,h2⟩:=zdL _ he _ _ hl
  obtain ⟨r',hr,hE⟩:=zfx (φ:=φ) _ _ _ hf zv.cells.toList (ps.toList.map fun x=>(x.1,a.eval x.2)) (fun i=>some (i*s,s)) (by rw [hcz];exact Each.refl_of fun v hv=>SR.of_sclf (hp v hv)) h1 h2
  refine Does.same H (v':= .agg r') ?_ ⟨r',rfl,by simpa using hE⟩
  have hr':Instr.fill (fun i=>some (i*s,s)) zv.cells (ps.toList.map fun x=>(x.1,a.eval x.2))=some r':=by simpa using hr
  simp [execOp,ho,Instr.build,zas hi hzv,run_underlying hu,zal hs,hr']
 ·cases hc
theorem zero_row (z:Array Value) (len:Nat):((Array.range (len*z.size)).map (fun i=>z[i % z.size]!)).toList=(List.replicate len z.toList).flatten:=by
 induction len with
 | zero=>simp
 | succ k ih=>
  rw [List.replicate_succ',List.flatten_append,←ih]
  simp only [Array.toList_map,Array.toList_range,List.flatten_cons,List.flatten_nil,List.append_nil]
  rw [Nat.succ_mul,List.range_add,List.map_append]
  congr 1
  rw [List.map_map]
  apply List.ext_getElem
  ·simp
  ·intro i h1 h2
   simp at h1
   simp [Nat.mul_add_mod_of_lt,Nat.add_comm,Nat.add_mul_mod_self_right,Nat.mod_eq_of_lt h1,h1]
theorem does_bsl {t:TypeId} {len:Nat} {ps:Array (Nat×Operand)} {z:RL} {s l:Nat} {qs:List (Nat×Nat×Opd)} {c:List Value} (he: ∀x y,opd x=some y→VR φ (e y) (a.eval x)) (H:HR φ h w) (hn:h n=none) (ho:o.op= .buildSlice t len ps)
  (hc:cOp P o= .bsl z s l qs) (hf:zgo (List.replicate l (zaE z)).flatten (qs.map fun p=>(p.1,p.2.1,e p.2.2))=some c):
  Does P o a w φ h n (.slice (some ⟨n,0,none⟩) l l) (.push (.cells c true)):=by
 simp only [cOp,ho] at hc
 split at hc<;>try cases hc
 rename_i el hu
 split at hc<;>try cases hc
 rename_i _ _ hs hz
 split at hc<;>try cases hc
 rename_i qs hl
 split at hc<;>try cases hc
 rename_i hb
 obtain ⟨i,zv,hi,hzv,hcz,hp,hsz⟩:=zbr hz
 obtain ⟨h1,h2⟩:=zdL _ he _ _ hl
 have hzs:zv.cells.size=s:=by
  obtain ⟨j,hj,hjs⟩:=zeS hs
  rw [hi] at hj;cases hj
  have:=congrArg List.length hcz
  simp at this;omega
 have hrow:((Array.range (len*s)).map (fun i=>zv.cells[i % zv.cells.size]!)).toList=(List.replicate len (zaE z)).flatten:=by
  rw [←hzs,zero_row,hcz]
 obtain ⟨r',hr,hE⟩:=zfx (φ:=φ) _ _ _ hf (List.replicate len (zaE z)).flatten (ps.toList.map fun x=>(x.1,a.eval x.2)) (fun i=>some (i*s,s))
  (Each.refl_of fun v hv=>SR.of_sclf (hp v (by
   simp only [List.mem_flatten,List.mem_replicate] at hv
   obtain ⟨l,⟨_,rfl⟩,hv⟩:=hv
   exact hv))) h1 h2
 simp only [Bool.or_eq_true,beq_iff_eq,decide_eq_true_eq,not_or,Nat.not_lt] at hb
 have hr':Instr.fill (fun i=>some (i*s,s)) ((Array.range (len*s)).map (fun i=>zv.cells[i % zv.cells.size]!)) (ps.toList.map fun x=>(x.1,a.eval x.2))=some r':=by
  rw [←hr,←hrow]
 refine Does.push H hn (.cells r' el) (v':= .slice (some ⟨w.heap.size,0,none⟩) len len) ?_ (BR.new (hE.mono fun _ _=>SR.mono (Le.upd (H.nil n hn) _)) true) ⟨_,rfl,rfl,w.heap.size,0,by simp [zdr],by simp⟩
 have hlt: ¬(16777216 < len*s):=om
 by_cases h0:len*s=0
 ·have hl0:len=0:=by
   rcases Nat.mul_eq_zero.1 h0 with h | h
   ·exact h
   ·exact absurd h hb.1
  subst hl0
  have hr2:Instr.fill (fun i=>some (i*s,s)) #[] (ps.toList.map fun x=>(x.1,a.eval x.2))=some r':=by simpa [Array.range_zero'] using hr'
  simp [execOp,ho,Instr.buildSlice,run_underlying hu,zal hs,newRow,hr2,Array.range_zero']
 ·simp [execOp,ho,Instr.buildSlice,run_underlying hu,zal hs,zas hi hzv,h0,hlt,newRow]
  have hr3:Instr.fill (fun i=>some (i*s,s)) (Array.map (fun x=>zv.cells[x % zv.cells.size]!) (Array.range (len*s))) (ps.toList.map fun x=>(x.1,a.eval x.2))=some r':=hr'
  simp only [hr3]
  simp
theorem Each.getElem_of {R} {c:List Value} {c':Array Value} {b:Nat} (h:Each R c ((c'.toList.drop b).take c.length)) {i:Nat} {v:Value} (hv:c[i]? =some v): ∃v',c'[b+i]? =some v'∧R v v':=by
 obtain ⟨v',h1,h2⟩:=h.get hv
 refine ⟨v', ?_,h2⟩
 rw [List.getElem?_take] at h1
 split at h1<;>try cases h1
 rw [List.getElem?_drop] at h1
 simpa using h1
theorem zgJ (w:World) (b o m:Nat) (c':Array Value) (T:TypeId) (fr:Nat×Nat) (hg:w.heap[b]? =some (.cells c' T fr)) (hl:o+m≤c'.size):
  (loadCells ⟨b,o,none⟩ m).run P w= .ok ((c'.toList.drop o).take m).toArray w:=by
 have hlen:((c'.toList.drop o).take m).length=m:=by simp;omega
 have:=run_loadCells_list (P:=P) w ⟨b,o,none⟩ ((c'.toList.drop o).take m) (fun j v hv=>by
  have hadd:(⟨b,o,none⟩:Addr).add j=⟨b,o+j,none⟩:=by unfold Addr.add;split<;>simp_all
  rw [hadd,cell_of_row w b (o+j) c' T fr hg]
  rw [List.getElem?_take] at hv
  split at hv<;>try cases hv
  rw [List.getElem?_drop] at hv
  simpa using hv)
 rwa [hlen] at this
theorem BR.seg {b o:Nat} {c:List Value} {rw':Bool} (hb:BR φ w b o (.cells c rw')) (k m:Nat) (hk:k+m≤c.length):
  ∃c',(loadCells ⟨b,o+k,none⟩ m).run P w= .ok c' w∧Each (SR φ) ((c.drop k).take m) c'.toList:=by
 obtain ⟨c',T,fr,h1,h2,h3,_⟩:=hb
 refine ⟨_,zgJ w b (o+k) m c' T fr h1 om, ?_⟩
 have:=(h3.drop k).take m
 rw [List.drop_take,List.drop_drop,List.take_take,show min m (c.length - k)=m by omega] at this
 simpa [Nat.add_comm] using this
theorem zjt {m:Option Nat} {c:List Value} {k:Nat} {v:Value} (h:zaP m c k=some v):(m=none∧c[k]? =some v)∨(∃s,m=some s∧k+s≤c.length∧v= .agg ((c.drop k).take s).toArray):=by
  unfold zaP at h
  cases m with
  | none=>exact .inl ⟨rfl,h⟩
  | some s => simp only at h;split at h<;>try cases h
              rename_i hk;exact .inr ⟨s,rfl,hk,rfl⟩
theorem zfF {t:TypeId} {m:Option Nat} (hm:ldn P t=some m) {b o:Nat} {c:List Value} {rw':Bool} (hb:BR φ w b o (.cells c rw')) {k:Nat} {v:Value} (hp:zaP m c k=some v):
  ∃v',(loadVar t ⟨b,o+k,none⟩).run P w= .ok v' w∧GR φ v v':=by
 obtain ⟨d,i,hd,hi,rfl⟩:=ldn_spec hm
 rcases zjt hp with ⟨hm0,hv⟩ | ⟨s,hms,hk,rfl⟩
 ·have hag:zfB d=false:=by cases h:zfB d<;>simp [h] at hm0 ⊢
  have hb':=hb
  obtain ⟨c',T,fr,h1,h2,h3,_⟩:=hb'
  obtain ⟨v',h4,h5⟩:=Each.getElem_of h3 hv
  refine ⟨v', ?_,GR.of_SR h5⟩
  simp [loadVar,zdl hd,hag,cell_of_row w b (o+k) c' T fr h1,h4]
 ·have hag:zfB d=true:=by cases h:zfB d<;>simp [h] at hms ⊢
  have hs:i.size=s:=by simpa [hag] using hms
  obtain ⟨c',hr,hE⟩:=hb.seg (P:=P) k s hk
  refine ⟨.agg c', ?_,c',rfl,by simpa using hE⟩
  simp [loadVar,zdl hd,hag,zbf hi,hs,hr]
theorem ldV_spec {m:Option Nat} {x v:Value} (h1:ldV h m x=some v): ∃k o c r,x= .pointer (some ⟨k,o,none⟩)∧h k=some (.cells c r)∧zaP m c o=some v:=by
 unfold ldV at h1
 split at h1<;>try cases h1
 rename_i k o
 split at h1<;>try cases h1
 rename_i c r hk
 exact ⟨k,o,c,r,rfl,hk,h1⟩
theorem does_ld {t:TypeId} {x:Operand} {y:Opd} {m:Option Nat} {v:Value} (he: ∀x y,opd x=some y→VR φ (e y) (a.eval x)) (H:HR φ h w) (ho:o.op= .load t x) (hx:opd x=some y) (hm:ldn P t=some m)
  (hv:ldV h m (e y)=some v):Does P o a w φ h n v .no:=by
 obtain ⟨k,off,c,r,hy,hk,hp⟩:=ldV_spec hv
 have h1:=he _ _ hx
 rw [hy] at h1
 obtain ⟨x',hx',_,b,bo,hφ,rfl⟩:=h1.pointer
 obtain ⟨b',o',hφ',hb⟩:=H.has k _ hk
 rw [hφ] at hφ';cases hφ'
 obtain ⟨v',hr,hG⟩:=zfF (P:=P) hm hb hp
 refine Does.same H (v':=v') ?_ (VR.of_GR hG)
 simp [execOp,ho,Instr.loadAt,Instr.sureAddr,hx',hr]
theorem splice_set (c:List Value) (k:Nat) (v:Value) (rest:List Value) (hk:k+(rest.length+1)≤c.length):splice (c.set k v) (k+1) rest=splice c k (v::rest):=by
 unfold splice
 exact list_seg_step c k v rest hk
theorem zd6 (P:Program) (g o:Nat) (t:TypeId) (fr:Nat×Nat): ∀(vs:List Value) (i:Nat) (cur:Array Value) (w:World),w.heap[g]? =some (.cells cur t fr)→(∀j,j < cur.size→¬(fr.1≤j∧j < fr.2))→o+i+vs.length≤cur.size→(∀v∈vs,v.oneCell'=true)→
  (storeCells ⟨g,o,none⟩ vs i).run P w= .ok () (w.setRow g (splice cur.toList (o+i) vs).toArray)
 | [],i,cur,w,hg,_,_,_=>by
  simp only [storeCells,splice,List.append_nil,List.length_nil,Nat.add_zero,List.take_append_drop,Array.toArray_toList]
  rw [setRow_self w g cur t fr hg]
  rfl
 | v::rest,i,cur,w,hg,hf,hl,h1=>by
  have hi:o+i < cur.size:=by simp at hl;omega
  have hadd:(⟨g,o,none⟩:Addr).add i=⟨g,o+i,none⟩:=by unfold Addr.add;split<;>simp_all
  have hcell:w.cell? ⟨g,o+i,none⟩=some cur[o+i]:=by simp [World.cell?,hg,hi]
  have hfro:w.frozen? ⟨g,o+i,none⟩=false:=by
   have:=hf (o+i) hi
   simp only [World.frozen?,hg]
   simpa using this
  have hst:(store ((⟨g,o,none⟩:Addr).add i) v).run P w= .ok () (w.setRow g (cur.setIfInBounds (o+i) v)):=by
   rw [hadd,run_store P w _ v _ (h1 v (by simp)),hcell]
   simp [hfro,setCell_eq_setRow w g (o+i) cur t fr v hg]
  have ih:=zd6 P g o t fr rest (i+1) (cur.setIfInBounds (o+i) v) (w.setRow g (cur.setIfInBounds (o+i) v)) (setRow_heap w g cur _ t _ hg) (by simpa using hf) (by simp at hl ⊢;omega) (fun x hx=>h1 x (by simp [hx]))
  simp only [storeCells,Sem.run_bind,hst,Result.andThen_ok,ih,setRow_setRow]
  congr 3
  have e:=splice_set cur.toList (o+i) v rest (by simp at hl ⊢;omega)
  simpa [Array.toList_setIfInBounds,Nat.add_assoc] using e
theorem length_splice (c:List Value) (k:Nat) (vs:List Value) (hk:k+vs.length≤c.length):(splice c k vs).length=c.length:=by
 unfold splice;simp;omega
theorem zfO (H:HR φ h w) {k:Nat} {c:List Value} (hk:h k=some (.cells c true)) {b bo:Nat} (hφ:φ k=some (b,bo)) {off:Nat} {vs vs':List Value} (hv:Each (SR φ) vs vs') (hl:off+vs.length≤c.length):
  ∃w',(storeCells ⟨b,bo+off,none⟩ vs').run P w= .ok () w'∧HR φ (zdr h k (.cells (splice c off vs) true)) w'∧Fr φ h w φ (zdr h k (.cells (splice c off vs) true)) w':=by
 obtain ⟨b',o',hφ',hb⟩:=H.has k _ hk
 rw [hφ] at hφ';cases hφ'
 obtain ⟨c',T,fr,h1,h2,h3,h4⟩:=hb
 obtain ⟨rfl,hsz,hfr⟩:=h4 rfl
 have hl':vs'.length=vs.length:=hv.1.symm
 have hr:=zd6 P b (0+off) T fr vs' 0 c' w h1 hfr om (hv.all fun _ _ r=>r.one)
 refine ⟨_,hr, ?_⟩
 have h3':Each (SR φ) c c'.toList:=by
  rw [List.drop_zero,List.take_of_length_le (by simp [hsz])] at h3;exact h3
 have hspl:Each (SR φ) (splice c off vs) (splice c'.toList (0+off+0) vs'):=by
  rw [show 0+off+0=off by omega];exact h3'.splice hv off
 refine HR.set H hk rfl hφ ?_ rfl (by simp) (fun j hj=>setRow_other w b j _ hj) rfl rfl rfl
 refine ⟨_,T,fr,setRow_heap w b c' _ T fr h1, ?_, ?_,fun _=>⟨rfl, ?_, ?_⟩⟩
 ·have:=hspl.1;simp only [Nat.zero_add];rw [this];simp
 ·rw [List.drop_zero,List.take_of_length_le (by have:=hspl.1;simp [this])];simpa using hspl
 ·have:=hspl.1;simpa using this.symm
 ·intro i hi
  apply hfr
  have:=hspl.1
  rw [length_splice c off vs hl] at this
  simp only [List.size_toArray] at hi
  omega
theorem does_st {t:TypeId} {x y:Operand} {x' y':Opd} {m:Nat} {f:Eff} (he: ∀x y,opd x=some y→VR φ (e y) (a.eval x)) (H:HR φ h w) (ho:o.op= .store t x y) (hx:opd x=some x') (hy:opd y=some y') (hm:zeT P t=some m)
  (hf:stV h m (e y') (e x')=some f):Does P o a w φ h n undef f:=by
 unfold stV at hf
 split at hf<;>try cases hf
 rename_i k off hxe
 split at hf<;>try cases hf
 rename_i ht
 split at hf<;>try cases hf
 rename_i c hk
 split at hf<;>try cases hf
 rename_i hb
 have h1:=he _ _ hx
 rw [hxe] at h1
 obtain ⟨x2,hx',_,b,bo,hφ,rfl⟩:=h1.pointer
 have h2:=(GR.of_VR (by simpa using ht) (he _ _ hy)).cells
 obtain ⟨w',hr,h3,h4⟩:=zfO (P:=P) (off:=off) H hk hφ h2 om
 refine ⟨φ,undef,w',.inr ⟨?_,rfl⟩,VR.undef,h3,h4⟩
 have hsz:(a.eval y).cells.size=m:=by have:=h2.1;simp at this;omega
 simp [execOp,ho,Instr.storeAt,Instr.sureAddr,hx',storeVar,zal hm,hsz,hr]
end
end Go.Rh

namespace Go.Rh
section
variable {P:Program} {o:Oper} {a:Act} {w:World} {φ:Phi} {h:Nat→Option Blk} {n:Nat} {e:Opd→Value}
theorem does_nilc {x:Operand} {y:Opd} {ad:Addr} (he: ∀x y,opd x=some y→VR φ (e y) (a.eval x)) (H:HR φ h w) (ho:o.op= .nilCheck x) (hx:opd x=some y) (hv:e y= .pointer (some ad)):Does P o a w φ h n (.pointer (some ad)) .no:=by
 have h1:=he _ _ hx
 rw [hv] at h1
 obtain ⟨x',hx',hA⟩:=h1.pointer
 refine Does.same H (v':= .pointer (some x')) ?_ ⟨x',rfl,hA⟩
 simp [execOp,ho,hx']
theorem run_binI (t:TypeId) {op:BinOp} {k k':IntKind} {x y:Int} {v:Value} (hv:binI op k x k' y=some v):(binOp op t (.int k x) (.int k' y)).run P w= .ok v w:=by
 cases op<;>simp only [binI] at hv
 case shl=>split at hv<;>cases hv;rename_i hy;simp [binOp,Op.shift,hy]
 case shr=>split at hv<;>cases hv;rename_i hy;simp [binOp,Op.shift,hy]
 all_goals
  by_cases hk:k=k'
  ·subst hk
   simp only [ne_eq,not_true_eq_false,if_false] at hv
   first
    | (cases hv;simp [binOp,Op.intArith,Op.intCmp,Op.intBits];done)
    | (split at hv<;>cases hv;rename_i hy;simp [binOp,Op.intDiv,hy];done)
  ·rw [if_pos (by simpa using hk)] at hv;cases hv
theorem run_binS (t:TypeId) {op:BinOp} {x y:ByteArray} {v:Value} (hv:binS op x y=some v):(binOp op t (.string x) (.string y)).run P w= .ok v w:=by
 cases op<;>simp only [binS] at hv
 case add=>split at hv<;>cases hv;rename_i hy;simp only [binOp,Op.stringOp,if_neg hy];rfl
 all_goals first | (cases hv;simp [binOp,Op.stringOp];done) | cases hv
theorem VR.plain {v v':Value} (hv:zbG v=true) (h:VR φ v v'):v'=v:=by
 have:SR φ v v':=by cases v<;>first | exact h | (simp [zbG] at hv)
 exact SR.eq_of_sclf hv this
theorem binV_plain {op:BinOp} {x y v:Value} (h:binV op x y=some v):(∃k a k' b,x= .int k a∧y= .int k' b∧binI op k a k' b=some v)∨(∃s t,x= .string s∧y= .string t∧binS op s t=some v):=by
 unfold binV at h
 split at h
 ·exact .inl ⟨_,_,_,_,rfl,rfl,h⟩
 ·exact .inr ⟨_,_,rfl,rfl,h⟩
 ·cases h
theorem binI_sclf {op:BinOp} {k k':IntKind} {x y:Int} {v:Value} (hv:binI op k x k' y=some v):zbG v=true:=by
 cases op<;>simp only [binI] at hv
 all_goals (repeat' (split at hv))<;>first | (cases hv;rfl) | cases hv
theorem binS_sclf {op:BinOp} {x y:ByteArray} {v:Value} (hv:binS op x y=some v):zbG v=true:=by
 cases op<;>simp only [binS] at hv
 all_goals (repeat' (split at hv))<;>first | (cases hv;rfl) | cases hv
theorem VR.of_sclf {v:Value} (h:zbG v=true):VR φ v v:=VR.of_GR (GR.of_SR (SR.of_sclf h))
theorem does_nilcF {x:Operand} {y:Opd} {g:FuncId} {f c:Array Value} (he: ∀x y,opd x=some y→VR φ (e y) (a.eval x)) (H:HR φ h w) (ho:o.op= .nilCheck x) (hx:opd x=some y) (hv:e y= .func (.func g) f c):Does P o a w φ h n (.func (.func g) f c) .no:=by
 have h1:=he _ _ hx
 rw [hv] at h1
 have h2:SR φ (.func (.func g) f c) (a.eval x):=h1
 simp only [SR] at h2
 refine Does.same H (v':= .func (.func g) f c) ?_ (VR.of_sclf h2.1)
 simp [execOp,ho,h2.2]
theorem zjl {v:Value} (h:sclf0 v=true):zbG v=true:=by
 unfold sclf0 at h;split at h<;>first | rfl | cases h
theorem zju (he: ∀x y,opd x=some y→VR φ (e y) (a.eval x)): ∀ {xs:List Operand} {ys:List Opd},opds xs=some ys→(ys.all fun x=>sclf0 (e x))=true→xs.map a.eval=ys.map e
 | [],ys,h,_=>by simp [opds] at h;subst h;rfl
 | x::xs,ys,h,hp=>by
  simp only [opds] at h
  split at h<;>cases h
  rename_i y l hy hl
  simp only [List.all_cons,Bool.and_eq_true] at hp
  simp only [List.map_cons,zju he hl hp.2,VR.plain (zjl hp.1) (he _ _ hy)]
theorem does_mkf {g:FuncId} {fs caps:Array Operand} {l:List Opd} (he: ∀x y,opd x=some y→VR φ (e y) (a.eval x)) (H:HR φ h w) (ho:o.op= .makeFunc (.func g) fs caps) (hf:fs.isEmpty=true) (hl:opds caps.toList=some l) (hp:(l.all fun x=>sclf0 (e x))=true):
  Does P o a w φ h n (.func (.func g) #[] (l.map e).toArray) .no:=by
 have hc:caps.map a.eval=(l.map e).toArray:=Array.toList_inj.1 (by rw [Array.toList_map,zju he hl hp])
 have hs:fs= #[]:=by simpa using hf
 refine Does.same H (v':= .func (.func g) #[] (l.map e).toArray) ?_ (VR.of_sclf ?_)
 ·simp only [execOp,ho,hs,Instr.makeFunc,hc,Array.map_empty];rfl
 ·simp only [zbG,Array.isEmpty_empty,Bool.true_and,List.all_map];exact hp
theorem does_bin {op:BinOp} {t t':TypeId} {x y:Operand} {x' y':Opd} {v:Value} (he: ∀x y,opd x=some y→VR φ (e y) (a.eval x)) (H:HR φ h w) (ho:o.op= .binOp op t x y t') (hx:opd x=some x') (hy:opd y=some y')
  (hv:binV op (e x') (e y')=some v):Does P o a w φ h n v .no:=by
 have h1:=he _ _ hx
 have h2:=he _ _ hy
 rcases binV_plain hv with ⟨k,p,k',q,ex,ey,hb⟩ | ⟨p,q,ex,ey,hb⟩<;>rw [ex] at h1<;>rw [ey] at h2
 ·refine Does.same H (v':=v) ?_ (VR.of_sclf (binI_sclf hb))
  simp [execOp,ho,h1.int,h2.int,eqGuard_at_int,run_binI t hb]
 ·refine Does.same H (v':=v) ?_ (VR.of_sclf (binS_sclf hb))
  simp [execOp,ho,h1.string,h2.string,eqGuard_at_string,run_binS t hb]
theorem does_eqb {op:BinOp} {t t':TypeId} {x y:Operand} {x' y':Opd} {p q:Bool} (he: ∀x y,opd x=some y→VR φ (e y) (a.eval x)) (H:HR φ h w) (ho:o.op= .binOp op t x y t') (hx:opd x=some x') (hy:opd y=some y')
  (hop:op= .eql∨op= .neq) (hu:P.underlying t=some .bool) (ex:e x'= .bool p) (ey:e y'= .bool q):Does P o a w φ h n (.bool (if (op== .neq) then p !=q else p==q)) .no:=by
 have h1:=he _ _ hx
 have h2:=he _ _ hy
 rw [ex] at h1
 rw [ey] at h2
 rcases hop with rfl | rfl
 ·refine Does.same H (v':= .bool (p==q)) ?_ (VR.mkBool _)
  simp [execOp,ho,h1.bool,h2.bool,eqGuard_at_bool,run_eql_bool w t p q hu]
 ·refine Does.same H (v':= .bool (p !=q)) ?_ (VR.mkBool _)
  simp [execOp,ho,h1.bool,h2.bool,eqGuard_at_bool,run_neq_bool w t p q hu,bne]
theorem zfM: ∀l:List LK,zdW (packK l)=l
 | []=>rfl
 | k::r=>by
  have ih:=zfM r
  unfold packK
  split
  ·rename_i n u q hc
   rw [hc] at ih
   split
   ·rename_i hs;subst hs;simp only [zdW,List.replicate_succ,List.cons_append] at ih ⊢;rw [ih]
   ·simp only [zdW] at ih ⊢;rw [ih];rfl
  ·rename_i hc
   rw [hc] at ih
   simp only [zdW] at ih ⊢
   rw [←ih];rfl
theorem zjB: ∀ {k1 k2:List LK} {x1 y1 x2 y2:List Value} {r:Bool},x1.length=k1.length→y1.length=k1.length→eqK (k1++k2) (x1++x2) (y1++y2)=some r→
  ∃r1 r2,eqK k1 x1 y1=some r1∧eqK k2 x2 y2=some r2∧r=(r1&&r2):=by
 intro k1
 induction k1 with
 | nil=>
  intro k2 x1 y1 x2 y2 r hx hy h
  simp at hx hy;subst hx;subst hy
  exact ⟨true,r,rfl,h,by simp⟩
 | cons k ks ih=>
  intro k2 x1 y1 x2 y2 r hx hy h
  cases x1 with
  | nil=>simp at hx
  | cons a x=>
   cases y1 with
   | nil=>simp at hy
   | cons b y=>
    simp only [List.cons_append] at h
    simp only [List.length_cons,Nat.add_right_cancel_iff] at hx hy
    simp only [eqK] at h ⊢
    split at h<;>try cases h
    rename_i r0 q h0 hq
    obtain ⟨r1,r2,h1,h2,rfl⟩:=ih hx hy hq
    exact ⟨r0&&r1,r2,by simp [h0,h1],h2,by simp [Bool.and_assoc]⟩
theorem zdm: ∀ {k:List LK} {x y:List Value} {r:Bool},eqK k x y=some r→x.length=k.length∧y.length=k.length
 | [],[],[],_,_=>⟨rfl,rfl⟩
 | k::ks,a::x,b::y,r,h=>by
  simp only [eqK] at h
  split at h<;>try cases h
  rename_i r0 q h0 hq
  obtain ⟨h1,h2⟩:=zdm hq
  simp [h1,h2]
 | [],_::_,_,_,h=>by simp [eqK] at h
 | [],[],_::_,_,h=>by simp [eqK] at h
 | _::_,[],_,_,h=>by simp [eqK] at h
 | _::_,_::_,[],_,h=>by simp [eqK] at h
def EqAt (P:Program) (D:Nat) (t:TypeId) (ks:List LK):Prop:=
 ∀(w:World) (xs ys:Array Value) (off:Nat) (r:Bool),eqK ks ((xs.toList.drop off).take ks.length) ((ys.toList.drop off).take ks.length)=some r→
  ((part t xs off).run P w).andThen (fun u w'=>((part t ys off).run P w').andThen fun v w''=>(Op.equalIn D t u v).run P w'')= .ok r w
def EqWh (P:Program) (D:Nat) (t:TypeId) (ks:List LK):Prop:=
 ∀(w:World) (xs ys:Array Value) (r:Bool),eqK ks xs.toList ys.toList=some r→(Op.equalIn D t (.agg xs) (.agg ys)).run P w= .ok r w
theorem EqAt.of_whole {D:Nat} {t:TypeId} {ks:List LK} {d:TypeDesc} (hd:P.underlying t=some d) (hg:zfB d=true) (hs:zeT P t=some ks.length) (hw:EqWh P D t ks):EqAt P D t ks:=by
 intro w xs ys off r hr
 have e: ∀zs:Array Value,(part t zs off).run P w= .ok (.agg (zs.extract off (off+ks.length))) w:=fun zs=>by
  simp [part,zdl hd,hg,zal hs]
 rw [e xs]
 simp only [Result.andThen_ok]
 rw [e ys]
 simp only [Result.andThen_ok]
 refine hw w _ _ r ?_
 have: ∀zs:Array Value,(zs.extract off (off+ks.length)).toList=(zs.toList.drop off).take ks.length:=fun zs=>by
  simp [Array.toList_extract,List.extract_eq_take_drop]
 rw [this,this]
 exact hr
theorem EqAt.leaf {D:Nat} {t:TypeId} {k:LK} (hu:P.underlying t=some (match k with | .b=> .bool | .i=> .int .i64 | .s=> .string)∨(k= .i∧∃j,P.underlying t=some (.int j))):EqAt P (D+1) t [k]:=by
 intro w xs ys off r hr
 simp only [List.length_singleton] at hr
 have hx: ∃x,xs[off]? =some x:=by
  cases h:xs[off]? with
  | some x=>exact ⟨x,rfl⟩
  | none=>
   have hh:(xs.toList.drop off).take 1= []:=by
    simp at h;rw [List.drop_of_length_le (by simpa using h)];rfl
   rw [hh] at hr;simp [eqK] at hr
 have hy: ∃x,ys[off]? =some x:=by
  cases h:ys[off]? with
  | some x=>exact ⟨x,rfl⟩
  | none=>
   have hh:(ys.toList.drop off).take 1= []:=by
    simp at h;rw [List.drop_of_length_le (by simpa using h)];rfl
   rw [hh] at hr
   have:=zdm hr
   simp at this
 obtain ⟨x,hx⟩:=hx
 obtain ⟨y,hy⟩:=hy
 have seg: ∀(zs:Array Value) z,zs[off]? =some z→(zs.toList.drop off).take 1= [z]:=fun zs z hz=>by
  obtain ⟨hlt,hz'⟩:=Array.getElem?_eq_some_iff.1 hz
  rw [List.drop_eq_getElem_cons (by simpa using hlt)]
  simp [hz']
 rw [seg _ _ hx,seg _ _ hy] at hr
 simp only [eqK] at hr
 split at hr<;>try cases hr
 rename_i r0 q h0 hq
 cases hq
 rw [Bool.and_true]
 have hag: ∃d,P.underlying t=some d∧zfB d=false:=by
  rcases hu with hu | ⟨_,j,hu⟩
  ·exact ⟨_,hu,by cases k<;>rfl⟩
  ·exact ⟨_,hu,rfl⟩
 obtain ⟨d,hd,hg⟩:=hag
 have e: ∀(zs:Array Value) z,zs[off]? =some z→(part t zs off).run P w= .ok z w:=fun zs z hz=>by
  simp [part,zdl hd,hg,hz]
 rw [e _ _ hx]
 simp only [Result.andThen_ok]
 rw [e _ _ hy]
 simp only [Result.andThen_ok]
 unfold eq1K at h0
 split at h0
 ·cases h0
  rcases hu with hu | ⟨hk,_⟩
  ·exact run_equalIn_bool w D t _ _ hu
  ·cases hk
 ·split at h0<;>cases h0
  rename_i hkk;subst hkk
  have: ∃j,P.underlying t=some (.int j):=by
   rcases hu with hu | ⟨_,j,hu⟩
   ·exact ⟨_,hu⟩
   ·exact ⟨j,hu⟩
  obtain ⟨j,hj⟩:=this
  exact run_equalIn_int w D t _ j _ _ hj
 ·cases h0
  rcases hu with hu | ⟨hk,_⟩
  ·simp [Op.equalIn,run_underlying hu]
  ·cases hk
 ·cases h0
theorem zha (D d:Nat) (ih: ∀t ks,ze7 P d t=some ks→(∃dd,P.underlying t=some dd∧zfB dd=true→zeT P t=some ks.length)→zeT P t=some ks.length→EqAt P D t ks):
  ∀(fs:List Field) (off:Nat) (ks:List LK),zjA P (ze7 P d) off fs=some ks→∀(w:World) (xs ys:Array Value) (r:Bool),
   eqK ks (xs.toList.drop off) (ys.toList.drop off)=some r→(Op.eqFields D xs ys fs).run P w= .ok r w
 | [],off,ks,hk,w,xs,ys,r,hr=>by
  simp only [zjA,Option.some.injEq] at hk;subst hk
  have:=zdm hr
  cases hx:xs.toList.drop off<;>cases hy:ys.toList.drop off<;>simp_all [eqK]
  subst hr;simp [Op.eqFields]
 | f::fs,off,ks,hk,w,xs,ys,r,hr=>by
  simp only [zjA] at hk
  split at hk<;>try cases hk
  rename_i m hm
  split at hk<;>try cases hk
  rename_i hc
  obtain ⟨hname,hoff,hsz⟩:=hc
  cases hq:zjA P (ze7 P d) (off+m.length) fs with
  | none=>simp [hq] at hk
  | some q=>
   simp only [hq,Option.map_some,Option.some.injEq] at hk
   subst hk
   obtain ⟨l1,l2⟩:=zdm hr
   have sp: ∀zs:Array Value,(zs.toList.drop off).length=(m++q).length→zs.toList.drop off=(zs.toList.drop off).take m.length++zs.toList.drop (off+m.length):=fun zs _=>by
    rw [←List.drop_drop,List.take_append_drop]
   rw [sp xs l1,sp ys l2] at hr
   obtain ⟨r1,r2,h1,h2,rfl⟩:=zjB (by simp at l1 ⊢;omega) (by simp at l2 ⊢;omega) hr
   have hat:=ih f.type m hm ⟨.bool,fun h=>hsz⟩ hsz w xs ys off r1 h1
   have ihf:=zha D d ih fs (off+m.length) q hq w xs ys r2 h2
   subst hoff
   simp only [Op.eqFields,if_pos hname,Sem.run_bind]
   cases hp:(part f.type xs f.offset).run P w with
   | halt x w1=>simp [hp] at hat
   | ok u w1=>
    simp only [hp,Result.andThen_ok] at hat ⊢
    cases hp2:(part f.type ys f.offset).run P w1 with
    | halt x w2=>simp [hp2] at hat
    | ok v w2=>
     simp only [hp2,Result.andThen_ok] at hat ⊢
     rw [hat]
     simp only [Result.andThen_ok]
     cases r1
     ·simp
     ·simpa using ihf
theorem zeW (D:Nat) (t:TypeId) (m:List LK) (s:Nat) (hs:zeT P t=some s) (hm:s=m.length) (hat:EqAt P D t m) (w:World) (xs ys:Array Value):
  ∀(k i:Nat) (r:Bool),eqK (List.replicate k m).flatten ((xs.toList.drop (i*s)).take (k*s)) ((ys.toList.drop (i*s)).take (k*s))=some r→
   (forIn (List.range' i k) ((none,()):Option Bool×Unit) (fun j (_:Option Bool×Unit)=>(do
    if !(←Op.equalIn D t (←part t xs (j*s)) (←part t ys (j*s))) then pure (.done (some false,())) else pure (.yield (none,())):Sem (ForInStep (Option Bool×Unit))))).run P w=
    .ok (if r then none else some false,()) w
 | 0,i,r,hr=>by
  simp [eqK] at hr;subst hr;simp
 | k+1,i,r,hr=>by
  rw [List.replicate_succ,List.flatten_cons] at hr
  have sp: ∀zs:Array Value,(zs.toList.drop (i*s)).take ((k+1)*s)=(zs.toList.drop (i*s)).take m.length++(zs.toList.drop ((i+1)*s)).take (k*s):=fun zs=>by
   rw [hm,Nat.succ_mul k,Nat.add_comm (k*m.length),List.take_add,List.drop_drop,Nat.succ_mul]
  obtain ⟨l1,l2⟩:=zdm hr
  rw [sp xs,sp ys] at hr
  obtain ⟨r1,r2,h1,h2,rfl⟩:=zjB (by
    simp only [List.length_take,List.length_drop,List.length_append] at l1 ⊢
    rw [hm] at l1 ⊢
    rw [Nat.succ_mul] at l1
    omega) (by
    simp only [List.length_take,List.length_drop,List.length_append] at l2 ⊢
    rw [hm] at l2 ⊢
    rw [Nat.succ_mul] at l2
    omega) hr
  have hat':=hat w xs ys (i*s) r1 h1
  have ih:=zeW D t m s hs hm hat w xs ys k (i+1) r2 h2
  rw [List.range'_succ]
  simp only [List.forIn_cons,Sem.run_bind]
  cases hp:(part t xs (i*s)).run P w with
  | halt x w1=>simp [hp] at hat'
  | ok u w1=>
   simp only [hp,Result.andThen_ok] at hat' ⊢
   cases hp2:(part t ys (i*s)).run P w1 with
   | halt x w2=>simp [hp2] at hat'
   | ok v w2=>
    simp only [hp2,Result.andThen_ok] at hat' ⊢
    rw [hat']
    simp only [Result.andThen_ok]
    cases r1
    ·simp
    ·simp only [Bool.not_true,Bool.false_eq_true,if_false,Sem.run_pure,Result.andThen_ok,Bool.true_and]
     exact ih
theorem eqWh_array (D:Nat) (t el:TypeId) (len:Nat) (m:List LK) (hu:P.underlying t=some (.array len el)) (hs:zeT P el=some m.length) (hat:EqAt P D el m):EqWh P (D+1) t (List.replicate len m).flatten:=by
 intro w xs ys r hr
 obtain ⟨l1,l2⟩:=zdm hr
 have hlen:(List.replicate len m).flatten.length=len*m.length:=by simp
 have key:=zeW (P:=P) D el m m.length hs rfl hat w xs ys len 0 r (by
  simp only [Nat.zero_mul,List.drop_zero]
  rw [List.take_of_length_le om,List.take_of_length_le om]
  exact hr)
 simp only [Op.equalIn,Sem.run_bind,run_underlying hu,Result.andThen_ok,zal hs]
 rw [Std.Legacy.Range.forIn_eq_forIn_range']
 simp only [Std.Legacy.Range.size,Nat.sub_zero,Nat.add_sub_cancel,Nat.div_one]
 rw [key]
 simp only [Result.andThen_ok]
 cases r<;>rfl
theorem ziz: ∀(d:Nat) (t:TypeId) (ks:List LK) (D:Nat),d≤D→ze7 P d t=some ks→
  ((∃dd,P.underlying t=some dd∧zfB dd=true)→EqWh P D t ks)∧(zeT P t=some ks.length→EqAt P D t ks)
 | 0,t,ks,D,_,h=>by simp [ze7] at h
 | d+1,t,ks,D,hD,h=>by
  obtain ⟨D,rfl⟩: ∃D',D=D'+1:=⟨D - 1,om⟩
  simp only [ze7] at h
  split at h
  ·rename_i hu
   cases h
   refine ⟨?_,fun _=>EqAt.leaf (k:= .b) (.inl hu)⟩
   rintro ⟨dd,h1,h2⟩
   rw [hu] at h1;cases h1;cases h2
  ·rename_i j hu
   cases h
   refine ⟨?_,fun _=>EqAt.leaf (k:= .i) (.inr ⟨rfl,j,hu⟩)⟩
   rintro ⟨dd,h1,h2⟩
   rw [hu] at h1;cases h1;cases h2
  ·rename_i hu
   cases h
   refine ⟨?_,fun _=>EqAt.leaf (k:= .s) (.inl hu)⟩
   rintro ⟨dd,h1,h2⟩
   rw [hu] at h1;cases h1;cases h2
  ·rename_i fs hu
   split at h<;>try cases h
   rename_i hst
   have hfs:P.fieldsOf t=fs:=by simp [Program.fieldsOf,hu]
   have hw:EqWh P (D+1) t ks:=fun w xs ys r hr=>by
    rw [run_equalIn_struct w D t xs ys (by rw [hfs];exact hu) (by simpa using hst),hfs]
    exact zha D d (fun t' ks' hl _ hs'=>(ziz d t' ks' D om hl).2 hs') fs.toList 0 ks h w xs ys r (by simpa using hr)
   exact ⟨fun _=>hw,fun hs=>EqAt.of_whole hu rfl hs hw⟩
  ·rename_i len el hu
   split at h<;>try cases h
   rename_i m hm
   split at h<;>try cases h
   rename_i hs
   have hw:=eqWh_array D t el len m hu hs ((ziz d el m D om hm).2 hs)
   exact ⟨fun _=>hw,fun hs=>EqAt.of_whole hu rfl hs hw⟩
  ·cases h
theorem SR.leaf {k:LK} {x y:Value} {r:Bool} (hr:eq1K k x y=some r):zbG x=true∧zbG y=true:=by
 unfold eq1K at hr
 split at hr<;>simp_all [zbG]
theorem Each.plain {l l':List Value} (h:Each (SR φ) l l') (hp: ∀v∈l,zbG v=true):l'=l:=by
 apply List.ext_getElem?
 intro i
 cases hi:l[i]? with
 | none=>simp at hi ⊢;rw [←h.1];exact hi
 | some v=>
  obtain ⟨v',h1,h2⟩:=h.get hi
  rw [h1,SR.eq_of_sclf (hp v (List.mem_of_getElem? hi)) h2]
theorem eqK_plain: ∀ {k:List LK} {x y:List Value} {r:Bool},eqK k x y=some r→(∀v∈x,zbG v=true)∧∀v∈y,zbG v=true
 | [],[],[],_,_=>by simp
 | k::ks,a::x,b::y,r,h=>by
  simp only [eqK] at h
  split at h<;>try cases h
  rename_i r0 q h0 hq
  obtain ⟨h1,h2⟩:=eqK_plain hq
  obtain ⟨h3,h4⟩:=SR.leaf h0
  simp only [List.mem_cons]
  exact ⟨fun v hv=>hv.elim (fun e=>e▸h3) (h1 v),fun v hv=>hv.elim (fun e=>e▸h4) (h2 v)⟩
 | [],_::_,_,_,h=>by simp [eqK] at h
 | [],[],_::_,_,h=>by simp [eqK] at h
 | _::_,[],_,_,h=>by simp [eqK] at h
 | _::_,_::_,[],_,h=>by simp [eqK] at h
theorem does_eqa {op:BinOp} {t t':TypeId} {x y:Operand} {x' y':Opd} {ks:List LK} {p q:Array Value} {r:Bool} {d:TypeDesc} (he: ∀x y,opd x=some y→VR φ (e y) (a.eval x)) (H:HR φ h w) (ho:o.op= .binOp op t x y t') (hx:opd x=some x') (hy:opd y=some y')
  (hop:op= .eql∨op= .neq) (hu:P.underlying t=some d) (hd:zfB d=true) (hl:ze7 P 12 t=some ks) (hg:P.eqGuardType P.depth t=false) (ex:e x'= .agg p) (ey:e y'= .agg q) (hr:eqK ks p.toList q.toList=some r):
  Does P o a w φ h n (.bool (if (op== .neq) then !r else r)) .no:=by
 have h1:=he _ _ hx
 have h2:=he _ _ hy
 rw [ex] at h1
 rw [ey] at h2
 obtain ⟨p',hp',hE1⟩:=h1.agg
 obtain ⟨q',hq',hE2⟩:=h2.agg
 obtain ⟨hp1,hp2⟩:=eqK_plain hr
 have e1:=Each.plain hE1 hp1
 have e2:=Each.plain hE2 hp2
 have hw:=(ziz (P:=P) 12 t ks 10000 om hl).1 ⟨d,hu,hd⟩ w p' q' r (by rw [e1,e2];exact hr)
 rcases hop with rfl | rfl
 ·refine Does.same H (v':= .bool r) ?_ (VR.mkBool _)
  simp only [execOp,ho,hp',hq',Sem.run_bind,run_eqGuard_agg w _ t x y p' q' hg,Result.andThen_ok,run_eql_struct,hw,Sem.run_pure]
 ·refine Does.same H (v':= .bool (!r)) ?_ (VR.mkBool _)
  simp only [execOp,ho,hp',hq',Sem.run_bind,run_eqGuard_agg w _ t x y p' q' hg,Result.andThen_ok,run_neq_struct,hw,Sem.run_pure]
end
end Go.Rh

namespace Go.Rh
section
variable {P:Program} {o:Oper} {a:Act} {w:World} {φ:Phi} {h:Nat→Option Blk} {n:Nat} {e:Opd→Value}
theorem isNil_rel {ty:NK} {v v':Value} {b:Bool} (hb:zfW ty v=some b) (hr:VR φ v v'):zfW ty v'=some b:=by
 unfold zfW at hb
 split at hb
 ·rename_i x
  cases x with
  | none=>have:=hr.plain (by rfl:zbG (.pointer none)=true);subst this;exact hb
  | some x=>obtain ⟨x',rfl,_⟩:=VR.pointer hr;exact hb
 ·rename_i x l c
  cases x with
  | none=>have:=hr.plain (by rfl:zbG (.slice none l c)=true);subst this;exact hb
  | some x=>obtain ⟨x',rfl,_⟩:=VR.slice hr;exact hb
 ·rename_i x
  cases x with
  | none=>have:=hr.plain (by rfl:zbG (.map none)=true);subst this;exact hb
  | some x=>obtain ⟨x',rfl,_⟩:=VR.map hr;exact hb
 ·rename_i x
  cases x with
  | none=>have:=hr.plain (by rfl:zbG (.chan none)=true);subst this;exact hb
  | some x=>obtain ⟨x',rfl,_⟩:=VR.chan hr;exact hb
 ·cases hb
def nkOf:TypeDesc→Option NK
 | .pointer _=>some .ptr
 | .slice _=>some .slc
 | .map _ _=>some .map
 | .chan _ _=>some .chn
 | _=>none
theorem run_eqNil1 (D:Nat) {t:TypeId} {d:TypeDesc} {ty:NK} {u v:Value} {r:Bool} (hu:P.underlying t=some d) (hk:nkOf d=some ty) (hr:ziB ty u v=some r):(Op.equalIn (D+1) t u v).run P w= .ok r w:=by
 cases d<;>simp only [nkOf] at hk<;>try cases hk
 case pointer=>
  cases u<;>simp [ziB,zfW] at hr
  cases v<;>simp at hr
  rename_i x y
  cases x<;>cases y<;>simp at hr<;>subst hr<;>simp [Op.equalIn,run_underlying hu]
 case slice=>
  cases u<;>simp [ziB,zfW] at hr
  cases v<;>simp at hr
  rename_i x _ _ y _ _
  cases x<;>cases y<;>simp at hr<;>subst hr<;>simp [Op.equalIn,run_underlying hu]
 case map=>
  cases u<;>simp [ziB,zfW] at hr
  cases v<;>simp at hr
  rename_i x y
  cases x<;>cases y<;>simp at hr<;>subst hr<;>simp [Op.equalIn,run_underlying hu]
 case chan=>
  cases u<;>simp [ziB,zfW] at hr
  cases v<;>simp at hr
  rename_i x y
  cases x<;>cases y<;>simp at hr<;>subst hr<;>simp [Op.equalIn,run_underlying hu]
theorem eqNil_parts {ty:NK} {u v:Value} {r:Bool} (h:ziB ty u v=some r): ∃b c,zfW ty u=some b∧zfW ty v=some c:=by
 unfold ziB at h
 split at h
 ·rename_i b h1 h2;exact ⟨_,_,h1,h2⟩
 ·rename_i b h1 h2;exact ⟨_,_,h1,h2⟩
 ·cases h
theorem eqGuard_nil {ty:NK} {b:Bool} {u v:Value} (h:zfW ty u=some b) (op:BinOp) (t:TypeId) (x y:Operand):eqGuard op t x y u v=pure ():=by
 unfold zfW at h
 split at h<;>first | exact eqGuard_at_pointer .. | exact eqGuard_at_slice .. | exact eqGuard_at_map .. | exact eqGuard_at_chan .. | cases h
theorem does_eqn {op:BinOp} {t t':TypeId} {x y:Operand} {x' y':Opd} {d:TypeDesc} {ty:NK} {r:Bool} (he: ∀x y,opd x=some y→VR φ (e y) (a.eval x)) (H:HR φ h w) (ho:o.op= .binOp op t x y t') (hx:opd x=some x') (hy:opd y=some y')
  (hop:op= .eql∨op= .neq) (hu:P.underlying t=some d) (hk:nkOf d=some ty) (hr:ziB ty (e x') (e y')=some r):
  Does P o a w φ h n (.bool (if (op== .neq) then !r else r)) .no:=by
 obtain ⟨b,c,h1,h2⟩:=eqNil_parts hr
 have h1':=isNil_rel h1 (he _ _ hx)
 have h2':=isNil_rel h2 (he _ _ hy)
 have hr':ziB ty (a.eval x) (a.eval y)=some r:=by
  unfold ziB at hr ⊢;rw [h1,h2] at hr;rw [h1',h2'];exact hr
 have hw:(Op.equal t (a.eval x) (a.eval y)).run P w= .ok r w:=run_eqNil1 (P:=P) (w:=w) 9999 hu hk hr'
 have hb: ∀op',op'= .eql∨op'= .neq→(binOp op' t (a.eval x) (a.eval y)).run P w= .ok (.bool (if op'== .neq then !r else r)) w:=by
  intro op' ho'
  unfold zfW at h1'
  split at h1'<;>try cases h1'
  all_goals
   rename_i hxx
   rw [hxx] at hw ⊢
   unfold zfW at h2'
   split at h2'<;>try cases h2'
   all_goals
    rename_i hyy
    rw [hyy] at hw ⊢
    rcases ho' with rfl | rfl<;>simp [binOp,hw]
 refine Does.same H (v':= .bool (if (op== .neq) then !r else r)) ?_ (VR.mkBool _)
 simp [execOp,ho,eqGuard_nil h1',hb op hop]
theorem does_un {op:UnOp} {t:TypeId} {x:Operand} {y:Opd} {v:Value} (he: ∀x y,opd x=some y→VR φ (e y) (a.eval x)) (H:HR φ h w) (ho:o.op= .unOp op t x) (hx:opd x=some y) (hv:unV op (e y)=some v):Does P o a w φ h n v .no:=by
 have h1:=he _ _ hx
 unfold unV at hv
 split at hv<;>try cases hv
 all_goals
  rename_i hy
  rw [hy] at h1
 ·refine Does.same H ?_ (VR.mkInt _ _)
  simp [execOp,ho,h1.int,Op.unary,Op.intArith]
 ·refine Does.same H ?_ (VR.mkInt _ _)
  simp [execOp,ho,h1.int,Op.unary,Op.intBits]
 ·refine Does.same H ?_ (VR.mkBool _)
  simp [execOp,ho,h1.bool,Op.unary]
theorem does_cvi {s d:TypeId} {ds:TypeDesc} {k j:IntKind} {m:Int} {x:Operand} {y:Opd} (he: ∀x y,opd x=some y→VR φ (e y) (a.eval x)) (H:HR φ h w) (ho:o.op= .convert s d x) (hx:opd x=some y) (hs:P.underlying s=some ds) (hd:P.underlying d=some (.int k))
  (hv:e y= .int j m):Does P o a w φ h n (.int k (k.wrap m)) .no:=by
 have h1:=he _ _ hx
 rw [hv] at h1
 refine Does.same H (v':= .int k (k.wrap m)) ?_ (VR.mkInt _ _)
 simp [execOp,ho,h1.int,convert,run_underlying hs,run_underlying hd,Conv.intToInt]
theorem does_cst {s d:TypeId} {ds:TypeDesc} {m:ByteArray} {x:Operand} {y:Opd} (he: ∀x y,opd x=some y→VR φ (e y) (a.eval x)) (H:HR φ h w) (ho:o.op= .convert s d x) (hx:opd x=some y) (hs:P.underlying s=some ds) (hd:P.underlying d=some .string)
  (hv:e y= .string m):Does P o a w φ h n (.string m) .no:=by
 have h1:=he _ _ hx
 rw [hv] at h1
 refine Does.same H (v':= .string m) ?_ (VR.mkString _)
 simp [execOp,ho,h1.string,convert,run_underlying hs,run_underlying hd]
theorem does_fad {s:TypeId} {fs:Array Field} {fd:Field} {i m:Nat} {x:Operand} {y:Opd} {k off:Nat} (he: ∀x y,opd x=some y→VR φ (e y) (a.eval x)) (H:HR φ h w) (ho:o.op= .fieldAddr s x i) (hx:opd x=some y) (hs:P.underlying s=some (.struct fs))
  (hf:fs[i]? =some fd) (hz:zeT P fd.type=some (m+1)) (hv:e y= .pointer (some ⟨k,off,none⟩)):Does P o a w φ h n (.pointer (some ⟨k,off+fd.offset,none⟩)) .no:=by
 have h1:=he _ _ hx
 rw [hv] at h1
 obtain ⟨x',hx',_,b,bo,hφ,rfl⟩:=h1.pointer
 refine Does.same H (v':= .pointer (some ⟨b,bo+(off+fd.offset),none⟩)) ?_ ⟨_,rfl,rfl,b,bo,hφ,rfl⟩
 simp [execOp,ho,Instr.fieldAt,run_underlying hs,hf,Instr.sureAddr,hx',fieldPlace,zal hz,Addr.add_lit,Nat.add_assoc]
theorem run_part {t:TypeId} {m:Option Nat} (hm:ldn P t=some m) {c:List Value} {c':Array Value} (hc:Each (SR φ) c c'.toList) {off:Nat} {v:Value} (hp:zaP m c off=some v): ∃v',(part t c' off).run P w= .ok v' w∧GR φ v v':=by
 obtain ⟨d,i,hd,hi,rfl⟩:=ldn_spec hm
 rcases zjt hp with ⟨hm0,hv⟩ | ⟨s,hms,hk,rfl⟩
 ·have hag:zfB d=false:=by cases h:zfB d<;>simp [h] at hm0 ⊢
  obtain ⟨v',h1,h2⟩:=hc.get hv
  refine ⟨v', ?_,GR.of_SR h2⟩
  have h1':c'[off]? =some v':=by simpa using h1
  simp [part,zdl hd,hag,h1']
 ·have hag:zfB d=true:=by cases h:zfB d<;>simp [h] at hms ⊢
  have hs:i.size=s:=by simpa [hag] using hms
  refine ⟨.agg (c'.extract off (off+s)), ?_,_,rfl, ?_⟩
  ·simp [part,zdl hd,hag,zbf hi,hs]
  ·have:=(hc.drop off).take s
   simpa [Array.toList_extract,List.extract_eq_take_drop] using this
theorem does_fld {s:TypeId} {fs:Array Field} {fd:Field} {i:Nat} {m:Option Nat} {x:Operand} {y:Opd} {c:Array Value} {v:Value} (he: ∀x y,opd x=some y→VR φ (e y) (a.eval x)) (H:HR φ h w) (ho:o.op= .field s x i) (hx:opd x=some y) (hs:P.underlying s=some (.struct fs))
  (hf:fs[i]? =some fd) (hz:ldn P fd.type=some m) (hy:e y= .agg c) (hv:zaP m c.toList fd.offset=some v):Does P o a w φ h n v .no:=by
 have h1:=he _ _ hx
 rw [hy] at h1
 obtain ⟨c',hc',hE⟩:=h1.agg
 obtain ⟨v',hr,hG⟩:=run_part (P:=P) (w:=w) hz hE hv
 refine Does.same H (v':=v') ?_ (VR.of_GR hG)
 simp [execOp,ho,Instr.field,run_underlying hs,hf,hc',asAgg,hr]
theorem does_iadA {t el:TypeId} {len s:Nat} {x i:Operand} {x' i':Opd} {k off:Nat} {ik:IntKind} {j:Int} (he: ∀x y,opd x=some y→VR φ (e y) (a.eval x)) (H:HR φ h w) (ho:o.op= .indexAddr t x i) (hx:opd x=some x') (hi:opd i=some i')
  (hu:P.underlying t=some (.array len el)) (hs:zeT P el=some s) (hv:e x'= .pointer (some ⟨k,off,none⟩)) (hj:e i'= .int ik j) (hb:0≤j∧j < len):Does P o a w φ h n (.pointer (some ⟨k,off+j.toNat*s,none⟩)) .no:=by
 have h1:=he _ _ hx
 have h2:=he _ _ hi
 rw [hv] at h1
 rw [hj] at h2
 obtain ⟨x',hx',_,b,bo,hφ,rfl⟩:=h1.pointer
 refine Does.same H (v':= .pointer (some ⟨b,bo+(off+j.toNat*s),none⟩)) ?_ ⟨_,rfl,rfl,b,bo,hφ,rfl⟩
 simp [execOp,ho,Instr.indexAt,h2.int,asIntOf,run_underlying hu,hx',Instr.sureAddr,zal hs,hb,Addr.add_lit,Nat.add_assoc]
theorem does_iadS {t el:TypeId} {len cap s:Nat} {x i:Operand} {x' i':Opd} {k off:Nat} {ik:IntKind} {j:Int} (he: ∀x y,opd x=some y→VR φ (e y) (a.eval x)) (H:HR φ h w) (ho:o.op= .indexAddr t x i) (hx:opd x=some x') (hi:opd i=some i')
  (hu:P.underlying t=some (.slice el)) (hs:zeT P el=some s) (hv:e x'= .slice (some ⟨k,off,none⟩) len cap) (hj:e i'= .int ik j) (hb:0≤j∧j < len):Does P o a w φ h n (.pointer (some ⟨k,off+j.toNat*s,none⟩)) .no:=by
 have h1:=he _ _ hx
 have h2:=he _ _ hi
 rw [hv] at h1
 rw [hj] at h2
 obtain ⟨x',hx',_,b,bo,hφ,rfl⟩:=h1.slice
 refine Does.same H (v':= .pointer (some ⟨b,bo+(off+j.toNat*s),none⟩)) ?_ ⟨_,rfl,rfl,b,bo,hφ,rfl⟩
 simp [execOp,ho,Instr.indexAt,h2.int,asIntOf,run_underlying hu,hx',zal hs,hb,Addr.add_lit,Nat.add_assoc]
theorem does_ixA {t el:TypeId} {len s:Nat} {m:Option Nat} {x i:Operand} {x' i':Opd} {c:Array Value} {ik:IntKind} {j:Int} {v:Value} (he: ∀x y,opd x=some y→VR φ (e y) (a.eval x)) (H:HR φ h w) (ho:o.op= .index t x i) (hx:opd x=some x') (hi:opd i=some i')
  (hu:P.underlying t=some (.array len el)) (hs:zeT P el=some s) (hm:ldn P el=some m) (hv:e x'= .agg c) (hj:e i'= .int ik j) (hb:0≤j∧j < len) (hp:zaP m c.toList (j.toNat*s)=some v):Does P o a w φ h n v .no:=by
 have h1:=he _ _ hx
 have h2:=he _ _ hi
 rw [hv] at h1
 rw [hj] at h2
 obtain ⟨c',hc',hE⟩:=h1.agg
 obtain ⟨v',hr,hG⟩:=run_part (P:=P) (w:=w) hm hE hp
 refine Does.same H (v':=v') ?_ (VR.of_GR hG)
 simp [execOp,ho,Instr.index,h2.int,asIntOf,run_underlying hu,hc',zal hs,hb,hr]
theorem does_ixS {t:TypeId} {x i:Operand} {x' i':Opd} {s:ByteArray} {ik:IntKind} {j:Int} {b:UInt8} (he: ∀x y,opd x=some y→VR φ (e y) (a.eval x)) (H:HR φ h w) (ho:o.op= .index t x i) (hx:opd x=some x') (hi:opd i=some i')
  (hu:P.underlying t=some .string) (hv:e x'= .string s) (hj:e i'= .int ik j) (hb:0≤j) (hp:s[j.toNat]? =some b):Does P o a w φ h n (.int .u8 b.toNat) .no:=by
 have h1:=he _ _ hx
 have h2:=he _ _ hi
 rw [hv] at h1
 rw [hj] at h2
 refine Does.same H (v':= .int .u8 b.toNat) ?_ (VR.mkInt _ _)
 simp [execOp,ho,Instr.index,h2.int,asIntOf,run_underlying hu,h1.string,hb,hp]
theorem does_ext {i:Nat} {x:Operand} {y:Opd} {vs:Array Value} {v:Value} (he: ∀x y,opd x=some y→VR φ (e y) (a.eval x)) (H:HR φ h w) (ho:o.op= .extract x i) (hx:opd x=some y) (hy:e y= .tuple vs) (hv:vs[i]? =some v):Does P o a w φ h n v .no:=by
 have h1:=he _ _ hx
 rw [hy] at h1
 obtain ⟨vs',hvs,hE⟩:=h1.tuple
 obtain ⟨v',h2,h3⟩:=hE.get (i:=i) (v:=v) (by simpa using hv)
 refine Does.same H (v':=v') ?_ (VR.of_GR h3)
 have h2':vs'[i]? =some v':=by simpa using h2
 simp [execOp,ho,hvs,Instr.extract,h2']
theorem does_mm {b:Bool} {t:TypeId} {ts:Array TypeId} {x y:Operand} {x' y':Opd} {j k:IntKind} {p q:Int} (he: ∀x y,opd x=some y→VR φ (e y) (a.eval x)) (H:HR φ h w)
  (ho:o.op= .call { callee:= .builtin (if b then .max else .min),args:= #[x,y],argTypes:=ts }) (hx:opd x=some x') (hy:opd y=some y') (ex:e x'= .int j p) (ey:e y'= .int k q):
  Does P o a w φ h n (.int j (if b then (if q > p then q else p) else (if q < p then q else p))) .no:=by
 have h1:=he _ _ hx
 have h2:=he _ _ hy
 rw [ex] at h1
 rw [ey] at h2
 refine Does.same H (v':= .int j (if b then (if q > p then q else p) else (if q < p then q else p))) ?_ (VR.mkInt _ _)
 cases b<;>simp [execOp,ho,resolve,invoke,builtin,h1.int,h2.int,Builtin.max_,Builtin.min_,Builtin.max2,Builtin.min2]
theorem does_lenS {t ty el:TypeId} {x:Operand} {y:Opd} {p:Option Addr} {l c:Nat} (he: ∀x y,opd x=some y→VR φ (e y) (a.eval x)) (H:HR φ h w) (ho:o.op= .call { callee:= .builtin .len,args:= #[x],argTypes:= #[t] }) (hx:opd x=some y)
  (hu:P.underlying t=some (.slice el)) (hy:e y= .slice p l c):Does P o a w φ h n (.int .i64 l) .no:=by
 have h1:=he _ _ hx
 rw [hy] at h1
 refine Does.same H (v':= .int .i64 l) ?_ (VR.mkInt _ _)
 cases p with
 | none=>have h2:=h1.sliceNil;simp [execOp,ho,resolve,invoke,builtin,Builtin.len_,run_underlying hu,h2,goInt]
 | some p=>obtain ⟨x',hx',_⟩:=h1.slice;simp [execOp,ho,resolve,invoke,builtin,Builtin.len_,run_underlying hu,hx',goInt]
theorem does_lenT {t:TypeId} {x:Operand} {y:Opd} {s:ByteArray} (he: ∀x y,opd x=some y→VR φ (e y) (a.eval x)) (H:HR φ h w) (ho:o.op= .call { callee:= .builtin .len,args:= #[x],argTypes:= #[t] }) (hx:opd x=some y)
  (hu:P.underlying t=some .string) (hy:e y= .string s):Does P o a w φ h n (.int .i64 s.size) .no:=by
 have h1:=he _ _ hx
 rw [hy] at h1
 refine Does.same H (v':= .int .i64 s.size) ?_ (VR.mkInt _ _)
 simp [execOp,ho,resolve,invoke,builtin,Builtin.len_,run_underlying hu,h1.string,goInt]
end
end Go.Rh

namespace Go.Rh
section
variable {P:Program} {o:Oper} {a:Act} {w:World} {φ:Phi} {h:Nat→Option Blk} {n:Nat} {e:Opd→Value}
def OR (φ:Phi):Option Value→Option Value→Prop
 | none,none=>True
 | some v,some v'=>VR φ v v'
 | _,_=>False
theorem OR.of (he: ∀x y,opd x=some y→VR φ (e y) (a.eval x)) {x:Option Operand} {y:Option Opd} (hx:opdO x=some y):OR φ (y.map e) (x.map a.eval):=by
 cases x with
 | none=>simp [opdO] at hx;subst hx;trivial
 | some x=>
  simp only [opdO,Option.map_eq_some_iff] at hx
  obtain ⟨z,hz,rfl⟩:=hx
  exact he _ _ hz
theorem zgK {y m:Nat} {v v':Value} (h:bnd y v=some m) (hr:VR φ v v') (code:BoundsCode):(Instr.sliceBound v' y code).run P w= .ok m w:=by
 unfold bnd at h
 split at h<;>try cases h
 rename_i k i
 split at h<;>cases h
 rename_i hb
 rw [hr.int]
 simp [Instr.sliceBound,asIntOf,hb]
theorem zhJ {len cap:Nat} {lo hi mx lo' hi' mx':Option Value} {r:Nat×Nat×Nat} (hr:bnds len cap lo hi mx=some r) (h1:OR φ lo lo') (h2:OR φ hi hi') (h3:OR φ mx mx') (b:Bool):
  (Instr.sliceBounds b len cap lo' hi' mx').run P w= .ok r w:=by
 unfold bnds at hr
 split at hr<;>try cases hr
 rename_i m hm
 split at hr<;>try cases hr
 rename_i hh hhi
 split at hr<;>try cases hr
 rename_i l hl
 unfold Instr.sliceBounds
 cases mx<;>cases mx'<;>simp only [OR] at h3
 ·cases hm
  cases hi<;>cases hi'<;>simp only [OR] at h2
  ·cases hhi
   cases lo<;>cases lo'<;>simp only [OR] at h1
   ·cases hl;simp
   ·simp [zgK hl h1]
  ·have e2:=zgK (P:=P) (w:=w) hhi h2
   cases lo<;>cases lo'<;>simp only [OR] at h1
   ·cases hl;simp [e2]
   ·simp [e2,zgK hl h1]
 ·have e1:=zgK (P:=P) (w:=w) hm h3
  cases hi<;>cases hi'<;>simp only [OR] at h2
  ·cases hhi
  ·have e2:=zgK (P:=P) (w:=w) hhi h2
   cases lo<;>cases lo'<;>simp only [OR] at h1
   ·cases hl;simp [e1,e2]
   ·simp [e1,e2,zgK hl h1]
theorem AddrR.addA {x x':Addr} (hA:AddrR φ x x') (s:Nat):AddrR φ (addA x s) (x'.add s):=by
 obtain ⟨hs,b,o,hφ,rfl⟩:=hA
 refine ⟨rfl,b,o,hφ, ?_⟩
 rw [Addr.add_lit]
 simp [Go.Rh.addA,Nat.add_assoc]
theorem slcV_rel {size:Nat} {x x':Value} {lo hi mx lo' hi' mx':Option Value} {v:Value} (hv:slcV size x lo hi mx=some v) (hx:VR φ x x') (h1:OR φ lo lo') (h2:OR φ hi hi') (h3:OR φ mx mx'):
  ∃b b' len cap l hh m,x= .slice b len cap∧x'= .slice b' len cap∧bnds len cap lo hi mx=some (l,hh,m)∧VR φ v (.slice (if m=l then b' else b'.map (·.add (l*size))) (hh - l) (m - l)):=by
 unfold slcV at hv
 split at hv<;>try cases hv
 rename_i b len cap
 split at hv<;>try cases hv
 rename_i l hh m hb
 cases b with
 | none=>
  have:=hx.sliceNil
  refine ⟨none,none,len,cap,l,hh,m,rfl,this,hb, ?_⟩
  simp only [Option.map_none,ite_self]
  exact VR.of_sclf rfl
 | some b=>
  obtain ⟨b',hb',hA⟩:=hx.slice
  refine ⟨some b,some b',len,cap,l,hh,m,rfl,hb',hb, ?_⟩
  by_cases hml:m=l
  ·simp only [if_pos hml];exact ⟨b',rfl,hA⟩
  ·simp only [if_neg hml,Option.map_some];exact ⟨_,rfl,hA.addA _⟩
theorem does_slcS {t el:TypeId} {s:Nat} {x:Operand} {lo hi mx:Option Operand} {x':Opd} {lo' hi' mx':Option Opd} {v:Value} (he: ∀x y,opd x=some y→VR φ (e y) (a.eval x)) (H:HR φ h w) (ho:o.op= .slice t x lo hi mx) (hx:opd x=some x')
  (h1:opdO lo=some lo') (h2:opdO hi=some hi') (h3:opdO mx=some mx') (hu:P.underlying t=some (.slice el)) (hs:zeT P el=some s) (hv:slcV s (e x') (lo'.map e) (hi'.map e) (mx'.map e)=some v):Does P o a w φ h n v .no:=by
 obtain ⟨b,b',len,cap,l,hh,m,hb1,hb2,hb3,hV⟩:=slcV_rel hv (he _ _ hx) (OR.of he h1) (OR.of he h2) (OR.of he h3)
 refine Does.same H (v':= .slice (if m=l then b' else b'.map (·.add (l*s))) (hh - l) (m - l)) ?_ hV
 simp [execOp,ho,Instr.sliceAt,Instr.slice,run_underlying hu,hb2,zhJ hb3 (OR.of he h1) (OR.of he h2) (OR.of he h3),zal hs]
theorem does_slcA {t el:TypeId} {s len:Nat} {x:Operand} {lo hi mx:Option Operand} {x':Opd} {lo' hi' mx':Option Opd} {v:Value} {k off:Nat} (he: ∀x y,opd x=some y→VR φ (e y) (a.eval x)) (H:HR φ h w) (ho:o.op= .slice t x lo hi mx) (hx:opd x=some x')
  (h1:opdO lo=some lo') (h2:opdO hi=some hi') (h3:opdO mx=some mx') (hu:P.underlying t=some (.array len el)) (hs:zeT P el=some s) (hxe:e x'= .pointer (some ⟨k,off,none⟩))
  (hv:slcV s (.slice (some ⟨k,off,none⟩) len len) (lo'.map e) (hi'.map e) (mx'.map e)=some v):Does P o a w φ h n v .no:=by
 have hp:=he _ _ hx
 rw [hxe] at hp
 obtain ⟨p',hp',hA⟩:=hp.pointer
 obtain ⟨b,b',len',cap,l,hh,m,hb1,hb2,hb3,hV⟩:=slcV_rel (φ:=φ) (x':= .slice (some p') len len) hv ⟨p',rfl,hA⟩ (OR.of he h1) (OR.of he h2) (OR.of he h3)
 cases hb1;cases hb2
 refine Does.same H (v':= .slice (if m=l then some p' else (some p').map (·.add (l*s))) (hh - l) (m - l)) ?_ hV
 by_cases hml:m=l
 ·simp [execOp,ho,Instr.sliceAt,run_underlying hu,hp',Instr.sureAddr,zhJ hb3 (OR.of he h1) (OR.of he h2) (OR.of he h3),zal hs,hml]
 ·simp [execOp,ho,Instr.sliceAt,run_underlying hu,hp',Instr.sureAddr,zhJ hb3 (OR.of he h1) (OR.of he h2) (OR.of he h3),zal hs,hml]
theorem does_slcT {t:TypeId} {x:Operand} {lo hi:Option Operand} {x':Opd} {lo' hi':Option Opd} {st:ByteArray} {l hh m:Nat} (he: ∀x y,opd x=some y→VR φ (e y) (a.eval x)) (H:HR φ h w) (ho:o.op= .slice t x lo hi none) (hx:opd x=some x')
  (h1:opdO lo=some lo') (h2:opdO hi=some hi') (hu:P.underlying t=some .string) (hxe:e x'= .string st) (hv:bnds st.size st.size (lo'.map e) (hi'.map e) none=some (l,hh,m)):Does P o a w φ h n (.string (st.extract l hh)) .no:=by
 have hp:=he _ _ hx
 rw [hxe] at hp
 refine Does.same H (v':= .string (st.extract l hh)) ?_ (VR.mkString _)
 have:=zhJ (P:=P) (w:=w) hv (OR.of he h1) (OR.of he h2) (show OR φ none none from trivial) false
 simp [execOp,ho,Instr.sliceAt,Instr.slice,run_underlying hu,hp.string,this]
theorem zhV {x:Int} (h0:0≤x) (h1:x≤2^48):i64.wrap x=x:=by
 exact IntWalk.i64_in x om
theorem does_mks {t el:TypeId} {i:TypeInfo} {z:RL} {x y:Operand} {x' y':Opd} {j k:IntKind} {l c:Int} (he: ∀x y,opd x=some y→VR φ (e y) (a.eval x)) (H:HR φ h w) (hn:h n=none) (ho:o.op= .makeSlice t x y) (hx:opd x=some x') (hy:opd y=some y')
  (hu:P.underlying t=some (.slice el)) (hi:P.info? el=some i) (hz:zbM P el=some z) (ex:e x'= .int j l) (ey:e y'= .int k c) (hb:0≤l∧l≤c∧i.bytes*c≤2^48∧c≤2^48):
  Does P o a w φ h n (.slice (some ⟨n,0,none⟩) l.toNat c.toNat) (.push (.cells (List.replicate c.toNat (zaE z)).flatten true)):=by
 have h1:=he _ _ hx
 have h2:=he _ _ hy
 rw [ex] at h1
 rw [ey] at h2
 obtain ⟨i',zv,hi',hzv,hcz,hp,hsz⟩:=zbr hz
 rw [hi] at hi';cases hi'
 have hzs:zv.cells.size=i.size:=by
  have:=congrArg List.length hcz
  simp at this;omega
 have hrow:((Array.range (c.toNat*i.size)).map (fun j=>zv.cells[j % zv.cells.size]!)).toList=(List.replicate c.toNat (zaE z)).flatten:=by
  rw [←hzs,zero_row,hcz]
 have wl:=zhV (x:=l) hb.1 om
 have wc:=zhV (x:=c) om hb.2.2.2
 have hE:Each (SR φ) (List.replicate c.toNat (zaE z)).flatten ((Array.range (c.toNat*i.size)).map (fun j=>zv.cells[j % zv.cells.size]!)).toList:=by
  rw [hrow]
  exact Each.refl_of fun v hv=>SR.of_sclf (hp v (by
   simp only [List.mem_flatten,List.mem_replicate] at hv
   obtain ⟨l,⟨_,rfl⟩,hv⟩:=hv
   exact hv))
 refine Does.push H hn (.cells ((Array.range (c.toNat*i.size)).map (fun j=>zv.cells[j % zv.cells.size]!)) el) (v':= .slice (some ⟨w.heap.size,0,none⟩) l.toNat c.toNat) ?_ (BR.new (hE.mono fun _ _=>SR.mono (Le.upd (H.nil n hn) _)) true) ⟨_,rfl,rfl,w.heap.size,0,by simp [zdr],by simp⟩
 have hc0: ¬c < 0:=om
 have hl0: ¬l < 0:=om
 have hlc: ¬c < l:=om
 have hbig: ¬((i.bytes:Int)*c > 281474976710656):=om
 by_cases h0:c.toNat*i.size=0
 ·simp [execOp,ho,Instr.makeSlice,run_underlying hu,h1.int,h2.int,asInt,asIntOf,zbo hi,wl,wc,hc0,hl0,hlc,hbig,zbf hi,h0,newRow,Array.range_zero']
 ·simp [execOp,ho,Instr.makeSlice,run_underlying hu,h1.int,h2.int,asInt,asIntOf,zbo hi,wl,wc,hc0,hl0,hlc,hbig,zbf hi,zas hi hzv,h0,newRow]
end
end Go.Rh
