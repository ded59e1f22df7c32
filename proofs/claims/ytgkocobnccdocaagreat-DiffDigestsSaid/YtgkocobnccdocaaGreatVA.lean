/- The value machine: its values, its state, its operations. (Go.V: a machine over lists in place of memory; nothing of it is trusted.) -/
import Derived.Orders
import Derived.Below
import Derived.Laws.Cells
import Derived.WalkKit
import Derived.Laws.CopyRow
import Derived.Laws.StructEq
namespace Go.V
structure Bid where
  lvl : Nat
  site : Nat
  deriving DecidableEq, Repr
inductive PV where
  | bool (b : Bool)
  | int (k : IntKind) (n : Int)
  | str (s : List UInt8)
  | nils
  | she
  | sh (ex : Bool) (l : List (List PV))
  | own (b : Bid) (hw off len : Nat)
  | ptr (b : Bid) (hw i j : Nat)
  | sptr (l : List (List PV)) (i j : Nat)
  | nilp
  | nilf
  | nili
  | nilm
  | mapr (b : Bid)
  | mp (es : List (List PV))
  | ifc (t : Nat) (cs : List PV)
  | yld (l : Nat)
  | mth (tbl : List (Nat × Nat))
  | fn (f : Nat) (caps : List PV)
  | agg (cs : List PV)
  | tup (vs : List PV)
  | dead
  deriving Inhabited, Repr
structure Blk where
  box : Bool
  frz : Bool
  esz : Nat
  els : List (List PV)
  deriving Repr
def bnd : Nat := 1000000
def fnId (f : Nat) : Nat := f % bnd
def fnN (f : Nat) : Nat := f / bnd
abbrev Heap := List (Bid × Blk)
abbrev Tmps := List (Nat × PV)
def beqB (b c : Bid) : Bool := Nat.beq b.lvl c.lvl && Nat.beq b.site c.site
def hget : Heap → Bid → Option Blk
  | [], _ => none
  | (b', B) :: r, b => match beqB b' b with | true => some B | false => hget r b
def hset (h : Heap) (b : Bid) (B : Blk) : Heap := (b, B) :: h
def tget : Tmps → Nat → Option PV
  | [], _ => none
  | (t', v) :: r, t => match Nat.beq t' t with | true => some v | false => tget r t
def tset (l : Tmps) (t : Nat) (v : PV) : Tmps := (t, v) :: l
def tput (l : Tmps) (d : Option Nat) (v : PV) : Tmps := match d with | some t => tset l t v | none => l
structure St where
  lvl : Nat
  tmps : Tmps
  heap : Heap
  deriving Repr
inductive VX where
  | t (n : Nat)
  | c (v : PV)
  deriving Inhabited, Repr
abbrev TF := Nat → Option PV
abbrev HF := Bid → Option Blk
def ev (tf : TF) : VX → Option PV
  | .t n => tf n
  | .c v => some v
def evs (tf : TF) : List VX → Option (List PV)
  | [] => some []
  | x :: r => (ev tf x).bind fun v => (evs tf r).map (v :: ·)
def closed : PV → Bool
  | .bool _ | .int _ _ | .str _ | .nils | .she | .sh _ _ | .sptr _ _ _ | .nilp | .nilf | .nili | .nilm | .ifc _ _ | .yld _ => true
  | .fn _ [] => true
  | _ => false
def clean : PV → Bool
  | .bool _ | .int _ _ | .str _ | .nils | .she | .nilp | .nilf | .nili | .nilm | .yld _ => true
  | .fn _ [] => true
  | _ => false
def xRq : PV → Bool
  | .own _ _ _ _ | .ptr _ _ _ _ => true
  | p => closed p
def xCO : PV → Bool
  | .agg _ | .tup _ | .dead | .mth _ | .mp _ => false
  | _ => true
def xDV (box : Bool) (p : PV) : Bool := if box then xCO p else closed p
def xAY : PV → List PV
  | .agg cs => cs
  | v => [v]
inductive VOp where
  | copy (x : VX)
  | pick (c a b : VX)
  | box (x : VX)
  | alloc (zero : List PV)
  | build (zero : List PV) (parts : List (Nat × Nat × VX))
  | bslice (esz : Nat) (zero : List PV) (len : Nat) (parts : List (Nat × VX))
  | load (agg : Bool) (n : Nat) (a : VX)
  | store (n : Nat) (a x : VX)
  | bin (op : BinOp) (x y : VX)
  | eqb (neg : Bool) (x y : VX)
  | nilc (x : VX)
  | mkifc (t : Nat) (x : VX)
  | eqc (neg : Bool) (ks : List Nat) (x y : VX)
  | isnil (neg : Bool) (x : VX)
  | isnili (neg : Bool) (x : VX)
  | not (x : VX)
  | conv (k : IntKind) (x : VX)
  | s2b (x : VX)
  | b2s (x : VX)
  | fn (f : Nat) (caps : List VX)
  | mkslice (bytes : Nat) (zero : List PV) (l c : VX)
  | slstr (x : VX) (lo hi : Option VX)
  | slsl (esz : Nat) (x : VX) (lo hi mx : Option VX)
  | slarr (n esz : Nat) (x : VX) (lo hi : Option VX)
  | faddr (off : Nat) (x : VX)
  | field (agg : Bool) (off n : Nat) (x : VX)
  | iaddr (esz : Nat) (x i : VX)
  | iaddrA (n esz : Nat) (x i : VX)
  | indexA (agg : Bool) (n esz : Nat) (x i : VX)
  | indexS (x i : VX)
  | extract (x : VX) (i : Nat)
  | len (x : VX)
  | lenS (x : VX)
  | cstr (x : VX)
  | append (esz bytes : Nat) (zero : List PV) (x y : VX)
  | copyS (esz : Nat) (x y : VX)
  | minmax (mx : Bool) (x y : VX)
  | cap (x : VX)
  | appZ (esz bytes : Nat) (zero : List PV) (x y : VX)
  | clear (esz : Nat) (zero : List PV) (x : VX)
  | mkmap
  | mlook (kk : Nat) (z : PV) (ok : Bool) (x k : VX)
  | mset (kk : Nat) (x k v : VX)
  | call (f : VX) (args : List VX)
  | bad
  deriving Inhabited, Repr
structure VOper where
  dst : Option Nat
  op : VOp
  guard : Option (Nat × Nat × Bool)
  site : Nat
  pre : List Nat
  deriving Inhabited, Repr
def xEx (op : BinOp) (k : IntKind) (a b : Int) : Option PV :=
  match op with
  | .add => some (.int k (k.wrap (a + b)))
  | .sub => some (.int k (k.wrap (a - b)))
  | .mul => some (.int k (k.wrap (a * b)))
  | .quo => if b = 0 then none else some (.int k (k.wrap (a.tdiv b)))
  | .rem => if b = 0 then none else some (.int k (a.tmod b))
  | .eql => some (.bool (a == b))
  | .neq => some (.bool (a != b))
  | .lss => some (.bool (decide (a < b)))
  | .leq => some (.bool (decide (a ≤ b)))
  | .gtr => some (.bool (decide (a > b)))
  | .geq => some (.bool (decide (a ≥ b)))
  | .and => some (.int k (k.wrap (BitVec.ofInt k.bits a &&& BitVec.ofInt k.bits b).toNat))
  | .or => some (.int k (k.wrap (BitVec.ofInt k.bits a ||| BitVec.ofInt k.bits b).toNat))
  | .xor => some (.int k (k.wrap (BitVec.ofInt k.bits a ^^^ BitVec.ofInt k.bits b).toNat))
  | .andNot => some (.int k (k.wrap (BitVec.ofInt k.bits a &&& ~~~BitVec.ofInt k.bits b).toNat))
  | _ => none
def xOJ (op : BinOp) (a b : List UInt8) : Option PV :=
  match op with
  | .add => if a.length + b.length ≤ 140737488355328 then some (.str (a ++ b)) else none
  | .eql => some (.bool (a == b))
  | .neq => some (.bool (!(a == b)))
  | .lss => some (.bool (Op.bytesLess a b))
  | .leq => some (.bool (Op.bytesLess a b || a == b))
  | .gtr => some (.bool (!(Op.bytesLess a b || a == b)))
  | .geq => some (.bool (!(Op.bytesLess a b)))
  | _ => none
def bin (op : BinOp) (x y : PV) : Option PV :=
  match op, x, y with
  | .shl, .int k a, .int _ b => if b < 0 then none else some (.int k (k.wrap (a * 2 ^ (min b.toNat k.bits))))
  | .shr, .int k a, .int _ b => if b < 0 then none else some (.int k (a.fdiv (2 ^ (min b.toNat k.bits))))
  | op, .int k a, .int k' b => if k = k' then xEx op k a b else none
  | op, .str a, .str b => xOJ op a b
  | _, _, _ => none
def xB3 : Nat → PV → PV → Option Bool
  | 0, .bool a, .bool b => some (a == b)
  | 1, .int k a, .int k' b => if k = k' then some (a == b) else none
  | 2, .str a, .str b => some (a == b)
  | _, _, _ => none
def xAv : List Nat → List PV → List PV → Option Bool
  | [], [], [] => some true
  | k :: ks, x :: r, y :: q => (xB3 k x y).bind fun e => (xAv ks r q).map (e && ·)
  | _, _, _ => none
def lay (cells : List PV) : List (Nat × Nat × PV) → Option (List PV)
  | [] => some cells
  | (off, n, v) :: r => if (xAY v).length = n ∧ off + n ≤ cells.length ∧ (xAY v).all xCO = true then lay (cells.take off ++ xAY v ++ cells.drop (off + n)) r else none
def xNw (esz : Nat) (els : List (List PV)) : List (Nat × PV) → Option (List (List PV))
  | [] => some els
  | (i, v) :: r => if (xAY v).length = esz ∧ i < els.length ∧ (xAY v).all xCO = true then xNw esz (els.set i (xAY v)) r else none
def xGr (tf : TF) : List (Nat × Nat × VX) → Option (List (Nat × Nat × PV))
  | [] => some []
  | (o, n, x) :: r => (ev tf x).bind fun v => (xGr tf r).map ((o, n, v) :: ·)
def xO1 (tf : TF) : List (Nat × VX) → Option (List (Nat × PV))
  | [] => some []
  | (i, x) :: r => (ev tf x).bind fun v => (xO1 tf r).map ((i, v) :: ·)
def xAf (hf : HF) : PV → Option (List Bid × List (List PV))
  | .nils | .she => some ([], [])
  | .sh _ l => some ([], l)
  | .own b hw off len => (hf b).bind fun B => if hw = B.els.length ∧ B.box = false ∧ off + len ≤ hw then some ([b], (B.els.drop off).take len) else none
  | .str s => some ([], s.map fun c => [.int .u8 c.toNat])
  | _ => none
def xHe (hf : HF) : PV → Option (List Bid × List (List PV))
  | .str _ => none
  | v => xAf hf v
def xGv : List (List PV) → Option (List UInt8)
  | [] => some []
  | [.int .u8 n] :: r => (xGv r).map (UInt8.ofNat n.toNat :: ·)
  | _ :: _ => none
def xBJ (hf : HF) : PV → Option (List Bid × PV)
  | .own b hw off len => (xAf hf (.own b hw off len)).map fun (r, l) => (r, .sh false l)
  | v => if closed v then some ([], v) else none
def xAR (tf : TF) (d : Int) : Option VX → Option Int
  | none => some d
  | some x => (ev tf x).bind fun | .int _ n => some n | _ => none
def xI2 (n esz : Nat) (cs : List PV) : List (List PV) := (List.range n).map fun i => (cs.drop (i * esz)).take esz
def xBF (es : List (List PV)) : Blk := ⟨true, false, 1, [[.mp es], [.mp []]]⟩
def xOq (B : Blk) : Option (List (List PV)) := match B.box, B.frz, B.els with
  | true, false, [[.mp es], _] => some es
  | _, _, _ => none
def xQm (kk : Nat) (k : PV) : List (List PV) → Option (Option PV)
  | [] => some none
  | [k', v] :: r => (xB3 kk k k').bind fun e => match e with | true => some (some v) | false => xQm kk k r
  | _ :: _ => none
def mput (kk : Nat) (k v : PV) : List (List PV) → Option (List (List PV))
  | [] => some [[k, v]]
  | [k', v'] :: r => (xB3 kk k k').bind fun e => match e with | true => some ([k, v] :: r) | false => (mput kk k v r).map ([k', v'] :: ·)
  | _ :: _ => none
def xOv (kk : Nat) (k : PV) : Bool := (xB3 kk k k).isSome
structure Res where
  v : PV
  ws : List (Bid × Blk)
  rd : List Bid
  deriving Repr
def retV (v : PV) : Option Res := some ⟨v, [], []⟩
def xBB : Nat := 70368744177664
def vop (lvl site : Nat) (tf : TF) (hf : HF) : VOp → Option Res
  | .copy x => (ev tf x).bind retV
  | .pick c a b => (ev tf c).bind fun
    | .bool true => (ev tf a).bind retV
    | .bool false => (ev tf b).bind retV
    | _ => none
  | .box x => (ev tf x).bind fun v =>
    if hf ⟨lvl, site⟩ = none ∧ (xAY v).all xCO = true ∧ 0 < (xAY v).length then some ⟨.ptr ⟨lvl, site⟩ 1 0 0, [(⟨lvl, site⟩, ⟨true, false, (xAY v).length, [xAY v]⟩)], []⟩ else none
  | .alloc z => if hf ⟨lvl, site⟩ = none ∧ z.all closed = true ∧ 0 < z.length then some ⟨.ptr ⟨lvl, site⟩ 1 0 0, [(⟨lvl, site⟩, ⟨true, false, z.length, [z]⟩)], []⟩ else none
  | .build z ps => (xGr tf ps).bind fun vs => (lay z vs).bind fun cs => retV (.agg cs)
  | .bslice esz z n ps => (xO1 tf ps).bind fun vs => (xNw esz (List.replicate n z) vs).bind fun els =>
    if hf ⟨lvl, site⟩ = none ∧ (∀ e ∈ els, e.length = esz ∧ ∀ c ∈ e, closed c = true) ∧ 0 < esz then some ⟨.own ⟨lvl, site⟩ n 0 n, [(⟨lvl, site⟩, ⟨false, false, esz, els⟩)], []⟩ else none
  | .load agg n a => (ev tf a).bind fun
    | .ptr b hw i j => (hf b).bind fun B => (B.els[i]?).bind fun e =>
      if hw ≠ B.els.length then none else
      if agg then (if j + n ≤ e.length then some ⟨.agg ((e.drop j).take n), [], [b]⟩ else none)
      else (e[j]?).map fun v => ⟨v, [], [b]⟩
    | .sptr l i j => (l[i]?).bind fun e =>
      if agg then (if j + n ≤ e.length then retV (.agg ((e.drop j).take n)) else none)
      else (e[j]?).bind retV
    | _ => none
  | .store n a x => (ev tf a).bind fun
    | .ptr b hw i j => (ev tf x).bind fun v => (hf b).bind fun B => (B.els[i]?).bind fun e =>
      if hw = B.els.length ∧ B.frz = false ∧ (xAY v).length = n ∧ j + n ≤ e.length ∧ (xAY v).all (xDV B.box) = true then
        some ⟨.dead, [(b, { B with els := B.els.set i (e.take j ++ xAY v ++ e.drop (j + n)) })], [b]⟩
      else none
    | _ => none
  | .bin op x y => (ev tf x).bind fun a => (ev tf y).bind fun b => (bin op a b).bind retV
  | .eqb neg x y => (ev tf x).bind fun a => (ev tf y).bind fun b => match a, b with
    | .bool a, .bool b => retV (.bool (if neg then !(a == b) else a == b))
    | _, _ => none
  | .nilc x => (ev tf x).bind fun
    | .ptr b hw i j => retV (.ptr b hw i j)
    | .sptr l i j => retV (.sptr l i j)
    | .fn f cs => retV (.fn f cs)
    | _ => none
  | .eqc neg ks x y => (ev tf x).bind fun a => (ev tf y).bind fun b => match a, b with
    | .agg xs, .agg ys => (xAv ks xs ys).bind fun r => retV (.bool (if neg then !r else r))
    | .nilp, .nilp => if ks = [7] then retV (.bool (if neg then false else true)) else none
    | .sptr _ _ _, .nilp => if ks = [7] then retV (.bool (if neg then true else false)) else none
    | .ptr _ _ _ _, .nilp => if ks = [7] then retV (.bool (if neg then true else false)) else none
    | _, _ => none
  | .isnil neg x => (ev tf x).bind fun
    | .nils => retV (.bool (if neg then false else true))
    | .she => retV (.bool (if neg then true else false))
    | .sh _ (_ :: _) => retV (.bool (if neg then true else false))
    | .own _ _ _ (_ + 1) => retV (.bool (if neg then true else false))
    | _ => none
  | .isnili neg x => (ev tf x).bind fun
    | .nili => retV (.bool (if neg then false else true))
    | .ifc _ _ => retV (.bool (if neg then true else false))
    | _ => none
  | .not x => (ev tf x).bind fun
    | .bool b => retV (.bool !b)
    | _ => none
  | .conv k x => (ev tf x).bind fun
    | .int _ n => retV (.int k (k.wrap n))
    | _ => none
  | .s2b x => (ev tf x).bind fun
    | .str s => if hf ⟨lvl, site⟩ = none then some ⟨.own ⟨lvl, site⟩ s.length 0 s.length, [(⟨lvl, site⟩, ⟨false, false, 1, s.map fun c => [.int .u8 c.toNat]⟩)], []⟩ else none
    | _ => none
  | .b2s x => (ev tf x).bind fun v => (xHe hf v).bind fun (rd, l) =>
    (xGv l).map fun s => ⟨.str s, [], rd⟩
  | .fn f cs => (evs tf cs).bind fun vs => if vs.all xRq = true then retV (.fn f vs) else none
  | .mkslice bytes z l c => (ev tf l).bind fun a => (ev tf c).bind fun b => match a, b with
    | .int .i64 n, .int .i64 m =>
      if hf ⟨lvl, site⟩ = none ∧ 0 ≤ n ∧ n ≤ m ∧ 0 < bytes ∧ m * bytes ≤ xBB ∧ 0 < z.length ∧ z.all closed = true then
        some ⟨.own ⟨lvl, site⟩ n.toNat 0 n.toNat, [(⟨lvl, site⟩, ⟨false, false, z.length, List.replicate n.toNat z⟩)], []⟩
      else none
    | _, _ => none
  | .slstr x lo hi => (ev tf x).bind fun
    | .str s => (xAR tf 0 lo).bind fun l => (xAR tf s.length hi).bind fun h =>
      if 0 ≤ l ∧ l ≤ h ∧ h ≤ s.length then retV (.str ((s.drop l.toNat).take (h.toNat - l.toNat))) else none
    | _ => none
  | .slsl esz x lo hi mx => (ev tf x).bind fun
    | .own b hw off len => (xAR tf 0 lo).bind fun l => (xAR tf len hi).bind fun h =>
      if mx.isNone ∧ 0 ≤ l ∧ l ≤ h ∧ (h ≤ len ∨ off + h.toNat ≤ hw) then (hf b).bind fun B => if B.esz = esz ∧ hw = B.els.length then some ⟨.own b hw (off + l.toNat) (h.toNat - l.toNat), [], [b]⟩ else none else none
    | .sh ex q => (xAR tf 0 lo).bind fun l => (xAR tf q.length hi).bind fun h => (xAR tf q.length mx).bind fun m =>
      if 0 ≤ l ∧ l ≤ h ∧ h ≤ m ∧ m ≤ q.length ∧ (∀ e ∈ q, e.length = esz) then retV (.sh (if mx.isSome then decide (m = h) else (ex && decide (h = q.length))) ((q.drop l.toNat).take (h.toNat - l.toNat))) else none
    | .nils => (xAR tf 0 lo).bind fun l => (xAR tf 0 hi).bind fun h => (xAR tf 0 mx).bind fun m => if l = 0 ∧ h = 0 ∧ m = 0 then retV .nils else none
    | .she => (xAR tf 0 lo).bind fun l => (xAR tf 0 hi).bind fun h => (xAR tf 0 mx).bind fun m => if l = 0 ∧ h = 0 ∧ m = 0 then retV .she else none
    | _ => none
  | .slarr n esz x lo hi => (ev tf x).bind fun
    | .ptr b hw i j => (xAR tf 0 lo).bind fun l => (xAR tf n hi).bind fun h => (hf b).bind fun B => (B.els[i]?).bind fun e =>
      if hw = 1 ∧ l = 0 ∧ h = n ∧ 0 < n ∧ 0 < esz ∧ j + n * esz ≤ e.length ∧ (e.all closed) = true ∧ B.els.length = 1 then
        some ⟨.sh false (xI2 n esz (e.drop j)), [(b, { B with frz := true })], [b]⟩ else none
    | _ => none
  | .faddr off x => (ev tf x).bind fun
    | .ptr b hw i j => retV (.ptr b hw i (j + off))
    | .sptr l i j => retV (.sptr l i (j + off))
    | _ => none
  | .field agg off n x => (ev tf x).bind fun
    | .agg cs => if agg then (if off + n ≤ cs.length then retV (.agg ((cs.drop off).take n)) else none) else (cs[off]?).bind retV
    | _ => none
  | .iaddr esz x i => (ev tf x).bind fun v => (ev tf i).bind fun
    | .int _ k => match v with
      | .own b hw off len => (hf b).bind fun B => if hw = B.els.length ∧ B.esz = esz ∧ 0 ≤ k ∧ k < len then some ⟨.ptr b hw (off + k.toNat) 0, [], [b]⟩ else none
      | .sh _ l => if 0 ≤ k ∧ k < l.length ∧ ((l[k.toNat]?).map (·.length)) = some esz then retV (.sptr l k.toNat 0) else none
      | _ => none
    | _ => none
  | .iaddrA n esz x i => (ev tf x).bind fun v => (ev tf i).bind fun
    | .int _ k => if 0 ≤ k ∧ k < n then (match v with
      | .ptr b hw i j => retV (.ptr b hw i (j + k.toNat * esz))
      | .sptr l i j => retV (.sptr l i (j + k.toNat * esz))
      | _ => none) else none
    | _ => none
  | .indexA agg n esz x i => (ev tf x).bind fun v => (ev tf i).bind fun
    | .int _ k => match v with
      | .agg cs => if 0 ≤ k ∧ k < n then
        (if agg then (if k.toNat * esz + esz ≤ cs.length then retV (.agg ((cs.drop (k.toNat * esz)).take esz)) else none) else (cs[k.toNat * esz]?).bind retV) else none
      | _ => none
    | _ => none
  | .indexS x i => (ev tf x).bind fun v => (ev tf i).bind fun
    | .int _ k => match v with
      | .str s => if 0 ≤ k then (s[k.toNat]?).bind fun c => retV (.int .u8 c.toNat) else none
      | _ => none
    | _ => none
  | .extract x i => (ev tf x).bind fun
    | .tup vs => (vs[i]?).bind retV
    | _ => none
  | .lenS x => (ev tf x).bind fun
    | .str s => retV (.int .i64 s.length)
    | _ => none
  | .cstr x => (ev tf x).bind fun
    | .str s => retV (.str s)
    | _ => none
  | .len x => (ev tf x).bind fun
    | .nils | .she => retV (.int .i64 0)
    | .sh _ l => retV (.int .i64 l.length)
    | .own _ _ _ n => retV (.int .i64 n)
    | _ => none
  | .append esz bytes z x y => (ev tf x).bind fun v => (ev tf y).bind fun u => (xAf hf u).bind fun (rd, ys) =>
    if (∀ e ∈ ys, e.length = esz ∧ ∀ c ∈ e, closed c = true) ∧ z.length = esz ∧ 0 < esz ∧ 0 < bytes then
    match v with
    | .own b hw off len => (hf b).bind fun B =>
      if hw = B.els.length ∧ B.box = false ∧ B.frz = false ∧ B.esz = esz ∧ off + len ≤ hw ∧ (off = 0 ∨ off + len + ys.length ≤ hw) ∧ (len + ys.length) * bytes ≤ xBB then
        if off = 0 ∧ len = hw then some ⟨.own b (B.els ++ ys).length 0 (B.els ++ ys).length, [(b, { B with els := B.els ++ ys })], b :: rd⟩ else
        some ⟨.own b (max (off + len + ys.length) hw) off (len + ys.length), [(b, { B with els := B.els.take (off + len) ++ ys ++ B.els.drop (off + len + ys.length) })], b :: rd⟩
      else none
    | .nils => if hf ⟨lvl, site⟩ = none ∧ ys.length * bytes ≤ xBB then some ⟨.own ⟨lvl, site⟩ ys.length 0 ys.length, [(⟨lvl, site⟩, ⟨false, false, esz, ys⟩)], rd⟩ else none
    | .sh true l => match ys with
      | [] => some ⟨.sh true l, [], rd⟩
      | _ :: _ => if hf ⟨lvl, site⟩ = none ∧ (l.length + ys.length) * bytes ≤ xBB ∧ (∀ e ∈ l, e.length = esz) then
        some ⟨.own ⟨lvl, site⟩ (l.length + ys.length) 0 (l.length + ys.length), [(⟨lvl, site⟩, ⟨false, false, esz, l ++ ys⟩)], rd⟩ else none
    | _ => none
    else none
  | .copyS esz x y => (ev tf x).bind fun v => (ev tf y).bind fun u => (xAf hf u).bind fun (rd, ys) =>
    match v with
    | .own b hw off len => (hf b).bind fun B =>
      if hw = B.els.length ∧ B.box = false ∧ B.frz = false ∧ B.esz = esz ∧ off + len ≤ hw ∧ (∀ e ∈ ys, e.length = esz ∧ ∀ c ∈ e, closed c = true) then
        if off = 0 ∧ len = hw ∧ ys.length = len then some ⟨.int .i64 (len : Int), [(b, { B with els := ys })], b :: rd⟩ else
        some ⟨.int .i64 ((min ys.length len : Nat) : Int), [(b, { B with els := B.els.take off ++ ys.take len ++ B.els.drop (off + min ys.length len) })], b :: rd⟩
      else none
    | .nils => some ⟨.int .i64 0, [], rd⟩
    | _ => none
  | .minmax mx x y => (ev tf x).bind fun a => (ev tf y).bind fun b => match a, b with
    | .int k n, .int k' m => if k = k' then retV (.int k (if mx then (if m > n then m else n) else (if m < n then m else n))) else none
    | .str s, .str r => retV (.str (if mx then (if Op.bytesLess s r then r else s) else (if Op.bytesLess s r || s == r then s else r)))
    | _, _ => none
  | .cap x => (ev tf x).bind fun
    | .nils => retV (.int .i64 0)
    | .sh true l => retV (.int .i64 l.length)
    | _ => none
  | .appZ esz bytes z x y => (ev tf x).bind fun v => (ev tf y).bind fun u => match v, u with
    | .nils, .int _ n =>
      if hf ⟨lvl, site⟩ = none ∧ 0 < n ∧ n * bytes ≤ xBB ∧ 0 < bytes ∧ z.length = esz ∧ 0 < esz ∧ z.all closed = true then
        some ⟨.own ⟨lvl, site⟩ n.toNat 0 n.toNat, [(⟨lvl, site⟩, ⟨false, false, esz, List.replicate n.toNat z⟩)], []⟩
      else none
    | _, _ => none
  | .clear esz z x => (ev tf x).bind fun
    | .nils => retV (.tup [])
    | .she => retV (.tup [])
    | .own b hw off len => (hf b).bind fun B =>
      if hw = B.els.length ∧ B.box = false ∧ B.frz = false ∧ B.esz = esz ∧ off + len ≤ hw ∧ z.length = esz ∧ 0 < esz ∧ z.all closed = true then
        some ⟨.tup [], [(b, { B with els := B.els.take off ++ List.replicate len z ++ B.els.drop (off + len) })], [b]⟩
      else none
    | _ => none
  | .mkmap => if hf ⟨lvl, site⟩ = none then some ⟨.mapr ⟨lvl, site⟩, [(⟨lvl, site⟩, xBF [])], []⟩ else none
  | .mlook kk z ok x k => (ev tf x).bind fun v => (ev tf k).bind fun kv => if xOv kk kv = true ∧ clean z = true then
    match v with
    | .mapr b => (hf b).bind fun B => (xOq B).bind fun es => (xQm kk kv es).map fun r =>
      ⟨if ok then .tup [r.getD z, .bool r.isSome] else r.getD z, [], [b]⟩
    | .nilm => some ⟨if ok then .tup [z, .bool false] else z, [], []⟩
    | _ => none
    else none
  | .mset kk x k v => (ev tf x).bind fun m => (ev tf k).bind fun kv => (ev tf v).bind fun vv => if xOv kk kv = true ∧ clean vv = true then
    match m with
    | .mapr b => (hf b).bind fun B => (xOq B).bind fun es => (mput kk kv vv es).map fun es' => ⟨.dead, [(b, xBF es')], [b]⟩
    | _ => none
    else none
  | .mkifc t x => (ev tf x).bind fun
    | .agg cs => if cs.all closed = true then retV (.ifc t cs) else none
    | _ => none
  | .call _ _ => none
  | .bad => none
def hput (h : Heap) : List (Bid × Blk) → Heap
  | [] => h
  | (b, B) :: r => hput (hset h b B) r
end Go.V
namespace Go.V
def GT : List (Nat × List PV) := []
end Go.V
set_option linter.unusedVariables false
namespace Go.V
def xA6 (w : World) (k : Nat) : Nat := match w.heap[k]? with | some (.cells c _ _) => c.size | _ => 0
inductive CRel (F : Nat → Prop) (w : World) : PV → Value → Prop
  | bool (b : Bool) : CRel F w (.bool b) (.bool b)
  | int (k : IntKind) (n : Int) : CRel F w (.int k n) (.int k n)
  | str (s : List UInt8) : CRel F w (.str s) (.string ⟨s.toArray⟩)
  | nils : CRel F w .nils (.slice none 0 0)
  | she (a : Addr) (cap : Nat) : CRel F w .she (.slice (some a) 0 cap)
  | shn (ex : Bool) : CRel F w (.sh ex []) (.slice none 0 0)
  | sh0 (ex : Bool) (a : Addr) (cap : Nat) (hex : ex = true → cap = 0) : CRel F w (.sh ex []) (.slice (some a) 0 cap)
  | sh (ex : Bool) (l : List (List PV)) (k o cap esz : Nat) (g : Nat → Nat → Value) (hF : F k) (hcap : l.length ≤ cap) (hex : ex = true → cap = l.length) (hesz : 0 < esz)
      (hlen : ∀ e ∈ l, e.length = esz)
      (hc : ∀ i j e p, l[i]? = some e → e[j]? = some p → w.cell? ⟨k, o + i * esz + j, none⟩ = some (g i j))
      (hr : ∀ i j e p, l[i]? = some e → e[j]? = some p → CRel F w p (g i j)) : CRel F w (.sh ex l) (.slice (some ⟨k, o, none⟩) l.length cap)
  | sptr (l : List (List PV)) (i0 j0 k o esz : Nat) (g : Nat → Nat → Value) (hF : F k) (hesz : 0 < esz)
      (hlen : ∀ e ∈ l, e.length = esz)
      (hc : ∀ i j e p, l[i]? = some e → e[j]? = some p → w.cell? ⟨k, o + i * esz + j, none⟩ = some (g i j))
      (hr : ∀ i j e p, l[i]? = some e → e[j]? = some p → CRel F w p (g i j)) : CRel F w (.sptr l i0 j0) (.pointer (some ⟨k, o + i0 * esz + j0, none⟩))
  | nilp : CRel F w .nilp (.pointer none)
  | nilf : CRel F w .nilf .nilFunc
  | nili : CRel F w .nili .nilIface
  | nilm : CRel F w .nilm (.map none)
  | yld (l : Nat) : CRel F w (.yld l) (.func (.yield l) #[] #[])
  | ifc (t : Nat) (cs : List PV) (rc : Array Value) (hs : rc.size = cs.length) (hr : ∀ (i : Nat) (p : PV) (x : Value), cs[i]? = some p → rc[i]? = some x → CRel F w p x) : CRel F w (.ifc t cs) (.iface t (.agg rc))
  | fn (f : Nat) : CRel F w (.fn f []) (.func (.func (fnId f)) #[] #[])
theorem xGR {w w' : World} {k o : Nat} (h : w'.heap[k]? = w.heap[k]?) : w'.cell? ⟨k, o, none⟩ = w.cell? ⟨k, o, none⟩ :=
  World.cell?_of_block (a := ⟨k, o, none⟩) h
theorem CRel.mono {F F' : Nat → Prop} {w w' : World} {p : PV} {v : Value} (hF : ∀ k, F k → F' k) (hm : ∀ k, F k → w'.heap[k]? = w.heap[k]?) (h : CRel F w p v) : CRel F' w' p v := by
  induction h with
  | bool b => exact .bool b
  | int k n => exact .int k n
  | str s => exact .str s
  | nils => exact .nils
  | she a cap => exact .she a cap
  | shn ex => exact .shn ex
  | sh0 ex a cap hex => exact .sh0 ex a cap hex
  | sh ex l k o cap esz g hFk hcap hex hesz hlen hc _ ih =>
    exact .sh ex l k o cap esz g (hF _ hFk) hcap hex hesz hlen (fun i j e p a b => by rw [xGR (hm _ hFk)]; exact hc i j e p a b) ih
  | sptr l i0 j0 k o esz g hFk hesz hlen hc _ ih =>
    exact .sptr l i0 j0 k o esz g (hF _ hFk) hesz hlen (fun i j e p a b => by rw [xGR (hm _ hFk)]; exact hc i j e p a b) ih
  | nilp => exact .nilp
  | nilf => exact .nilf
  | nili => exact .nili
  | nilm => exact .nilm
  | yld l => exact .yld l
  | ifc t cs rc hs _ ih => exact .ifc t cs rc hs ih
  | fn f => exact .fn f
theorem CRel.clean {F F' : Nat → Prop} {w w' : World} {p : PV} {v : Value} (hp : clean p = true) (h : CRel F w p v) : CRel F' w' p v := by
  cases h <;> first | (simp [V.clean] at hp; done) | constructor
theorem CRel.oneCell {F : Nat → Prop} {w : World} {p : PV} {v : Value} (h : CRel F w p v) : v.oneCell' = true := by
  cases h <;> rfl
theorem CRel.closed {F : Nat → Prop} {w : World} {p : PV} {v : Value} (h : CRel F w p v) : closed p = true := by
  cases h <;> rfl
def OwnRel (μ : Bid → Option Nat) (hf : HF) (w : World) (b : Bid) (hw off len : Nat) (v : Value) : Prop :=
  ∃ ad cap, v = .slice ad len cap ∧ (0 < len → ad.isSome = true) ∧ ∃ B, hf b = some B ∧ B.box = false ∧ hw ≤ B.els.length ∧
    (hw = B.els.length → off + len ≤ hw ∧
      match μ b with
      | none => ad = none ∧ cap = 0 ∧ len = 0 ∧ off = 0
      | some k => ∃ o, ad = some ⟨k, o, none⟩ ∧ (0 < cap → o = off * B.esz) ∧ len ≤ cap ∧ (off + cap) * B.esz = xA6 w k ∧ B.els.length ≤ off + cap)
def PtrRel (μ : Bid → Option Nat) (hf : HF) (b : Bid) (hw i j : Nat) (v : Value) : Prop :=
  (∃ a, v = .pointer (some a)) ∧ ∃ B, hf b = some B ∧ (hw ≤ B.els.length ∧ (B.box = true → hw ≤ 1)) ∧ (hw = B.els.length → ∀ k, μ b = some k → v = .pointer (some ⟨k, i * B.esz + j, none⟩))
def MapRel (μ : Bid → Option Nat) (hf : HF) (b : Bid) (v : Value) : Prop :=
  (∃ r, v = .map (some r)) ∧ ∃ B, hf b = some B ∧ B.box = true ∧ 2 ≤ B.els.length ∧ (2 = B.els.length → ∀ k, μ b = some k → v = .map (some k))
def PRel (F : Nat → Prop) (μ : Bid → Option Nat) (hf : HF) (w : World) (p : PV) (v : Value) : Prop :=
  match p with
  | .own b hw off len => OwnRel μ hf w b hw off len v
  | .ptr b hw i j => PtrRel μ hf b hw i j v
  | .mapr b => MapRel μ hf b v
  | p => CRel F w p v
def SRel (F : Nat → Prop) (μ : Bid → Option Nat) (hf : HF) (w : World) (p : PV) (v : Value) : Prop :=
  match p with
  | .fn f cs => ∃ rc : Array Value, v = .func (.func (fnId f)) (rc.extract 0 (fnN f)) (rc.extract (fnN f) rc.size) ∧ rc.size = cs.length ∧ ∀ (i : Nat) (q : PV) (x : Value), cs[i]? = some q → rc[i]? = some x → PRel F μ hf w q x
  | .agg _ => False
  | .tup _ => False
  | .dead => True
  | p => PRel F μ hf w p v
def ARel (F : Nat → Prop) (μ : Bid → Option Nat) (hf : HF) (w : World) (p : PV) (v : Value) : Prop :=
  match p with
  | .agg cs => ∃ vs : Array Value, v = .agg vs ∧ vs.size = cs.length ∧ ∀ (i : Nat) (q : PV) (x : Value), cs[i]? = some q → vs[i]? = some x → SRel F μ hf w q x
  | p => SRel F μ hf w p v
def VRel (F : Nat → Prop) (μ : Bid → Option Nat) (hf : HF) (w : World) (p : PV) (v : Value) : Prop :=
  match p with
  | .tup ps => ∃ vs : Array Value, v = .tuple vs ∧ vs.size = ps.length ∧ ∀ (i : Nat) (q : PV) (x : Value), ps[i]? = some q → vs[i]? = some x → ARel F μ hf w q x
  | p => ARel F μ hf w p v
def NC (w : World) (k : Nat) : Prop := ∃ o, w.heap[k]? = some o ∧ (∀ c e f, o ≠ .cells c e f) ∧ ∀ es n, o ≠ .map es n
theorem NC.not {w : World} {k : Nat} {c : Array Value} {e : TypeId} {f : Nat × Nat} (h : w.heap[k]? = some (.cells c e f)) : ¬ NC w k := by
  rintro ⟨o, h1, h2⟩
  rw [h] at h1
  cases h1
  exact h2.1 _ _ _ rfl
theorem NC.notMap {w : World} {k : Nat} {es : Array MapEntry} {n : Nat} (h : w.heap[k]? = some (.map es n)) : ¬ NC w k := by
  rintro ⟨o, h1, h2⟩
  rw [h] at h1
  cases h1
  exact h2.2 _ _ rfl
structure KeepsG (g : Nat → Prop) (F : Nat → Prop) (μ : Bid → Option Nat) (hf : HF) (w : World) (F' : Nat → Prop) (μ' : Bid → Option Nat) (hf' : HF) (w' : World) : Prop where
  sub : ∀ k, F k → F' k
  mem : ∀ k, F k ∨ (g k ∧ NC w k) → w'.heap[k]? = w.heap[k]?
  fre : ∀ k, F' k → F k ∨ (g k → ¬ NC w k)
  ext : ∀ b B, hf b = some B → ∃ B', hf' b = some B' ∧ B'.box = B.box ∧ B.els.length ≤ B'.els.length ∧
    (B'.els.length = B.els.length → B'.esz = B.esz ∧ μ' b = μ b ∧ ∀ k, μ b = some k → xA6 w' k = xA6 w k)
abbrev Keeps (F : Nat → Prop) (μ : Bid → Option Nat) (hf : HF) (w : World) (F' : Nat → Prop) (μ' : Bid → Option Nat) (hf' : HF) (w' : World) : Prop := KeepsG (fun _ => True) F μ hf w F' μ' hf' w'
section
variable {g : Nat → Prop} {F F' F'' : Nat → Prop} {μ μ' μ'' : Bid → Option Nat} {hf hf' hf'' : HF} {w w' w'' : World}
theorem KeepsG.refl : KeepsG g F μ hf w F μ hf w := ⟨fun _ h => h, fun _ _ => rfl, fun _ h => .inl h, fun b B h => ⟨B, h, rfl, Nat.le_refl _, fun _ => ⟨rfl, rfl, fun _ _ => rfl⟩⟩⟩
theorem Keeps.refl : Keeps F μ hf w F μ hf w := KeepsG.refl
theorem KeepsG.mono {g' : Nat → Prop} (h : KeepsG g F μ hf w F' μ' hf' w') (hg : ∀ k, g' k → g k) : KeepsG g' F μ hf w F' μ' hf' w' :=
  ⟨h.sub, fun k hk => h.mem k (hk.imp id fun h => ⟨hg k h.1, h.2⟩), fun k hk => (h.fre k hk).imp id fun h h' => h (hg k h'), h.ext⟩
theorem KeepsG.nc (h : KeepsG g F μ hf w F' μ' hf' w') {k : Nat} (hg : g k) (hn : NC w k) : NC w' k := by
  obtain ⟨o, h2, h3⟩ := hn
  exact ⟨o, (h.mem k (.inr ⟨hg, o, h2, h3⟩)).trans h2, h3⟩
theorem KeepsG.trans (h : KeepsG g F μ hf w F' μ' hf' w') (h' : KeepsG g F' μ' hf' w' F'' μ'' hf'' w'') : KeepsG g F μ hf w F'' μ'' hf'' w'' := by
  refine ⟨fun k hk => h'.sub k (h.sub k hk), fun k hk => ?_, fun k hk => ?_, fun b B hb => ?_⟩
  · rcases hk with hk | hk
    · exact (h'.mem k (.inl (h.sub k hk))).trans (h.mem k (.inl hk))
    · exact (h'.mem k (.inr ⟨hk.1, h.nc hk.1 hk.2⟩)).trans (h.mem k (.inr hk))
  · rcases h'.fre k hk with h1 | h1
    · exact h.fre k h1
    · exact .inr fun hg h2 => h1 hg (h.nc hg h2)
  obtain ⟨B', hb', e1, l1, r1⟩ := h.ext b B hb
  obtain ⟨B'', hb'', e2, l2, r2⟩ := h'.ext b B' hb'
  refine ⟨B'', hb'', e2.trans e1, Nat.le_trans l1 l2, fun he => ?_⟩
  obtain ⟨a1, a2, a3⟩ := r1 (by omega)
  obtain ⟨b1, b2, b3⟩ := r2 (by omega)
  exact ⟨b1.trans a1, b2.trans a2, fun k hk => (b3 k (a2.trans hk)).trans (a3 k hk)⟩
theorem Keeps.trans (h : Keeps F μ hf w F' μ' hf' w') (h' : Keeps F' μ' hf' w' F'' μ'' hf'' w'') : Keeps F μ hf w F'' μ'' hf'' w'' := KeepsG.trans h h'
theorem KeepsG.tr (h : KeepsG g F μ hf w F' μ' hf' w') (h' : Keeps F' μ' hf' w' F'' μ'' hf'' w'') : KeepsG g F μ hf w F'' μ'' hf'' w'' := h.trans (h'.mono fun _ _ => trivial)
theorem OwnRel.keeps {b : Bid} {hw off len : Nat} {v : Value} (hk : KeepsG g F μ hf w F' μ' hf' w') (h : OwnRel μ hf w b hw off len v) : OwnRel μ' hf' w' b hw off len v := by
  obtain ⟨ad, cap, rfl, h0, B, hb, hbox, hle, hcur⟩ := h
  obtain ⟨B', hb', e1, l1, r1⟩ := hk.ext b B hb
  refine ⟨ad, cap, rfl, h0, B', hb', e1.trans hbox, Nat.le_trans hle l1, fun he => ?_⟩
  have hl : B'.els.length = B.els.length := by omega
  obtain ⟨a1, a2, a3⟩ := r1 hl
  obtain ⟨c1, c2⟩ := hcur (by omega)
  refine ⟨c1, ?_⟩
  rw [a2]
  cases hm : μ b with
  | none => rw [hm] at c2; exact c2
  | some k =>
    rw [hm] at c2
    obtain ⟨o, d1, d2, d3, d4, d5⟩ := c2
    exact ⟨o, d1, by rw [a1]; exact d2, d3, by rw [a1, a3 k hm]; exact d4, by omega⟩
theorem PtrRel.keeps {b : Bid} {hw i j : Nat} {v : Value} (hk : KeepsG g F μ hf w F' μ' hf' w') (h : PtrRel μ hf b hw i j v) : PtrRel μ' hf' b hw i j v := by
  obtain ⟨h0, B, hb, hle, hcur⟩ := h
  obtain ⟨B', hb', e1, l1, r1⟩ := hk.ext b B hb
  refine ⟨h0, B', hb', ⟨Nat.le_trans hle.1 l1, fun h => hle.2 (e1 ▸ h)⟩, fun he k hm => ?_⟩
  have := hle.1
  obtain ⟨a1, a2, a3⟩ := r1 (by omega)
  rw [a1]
  exact hcur (by omega) k (a2 ▸ hm)
theorem MapRel.keeps {b : Bid} {v : Value} (hk : KeepsG g F μ hf w F' μ' hf' w') (h : MapRel μ hf b v) : MapRel μ' hf' b v := by
  obtain ⟨h0, B, hb, hbx, hle, hcur⟩ := h
  obtain ⟨B', hb', e1, l1, r1⟩ := hk.ext b B hb
  refine ⟨h0, B', hb', e1.trans hbx, Nat.le_trans hle l1, fun he k hm => ?_⟩
  obtain ⟨a1, a2, a3⟩ := r1 (by omega)
  exact hcur (by omega) k (a2 ▸ hm)
theorem PRel.keeps {p : PV} {v : Value} (hk : KeepsG g F μ hf w F' μ' hf' w') (h : PRel F μ hf w p v) : PRel F' μ' hf' w' p v := by
  unfold PRel at *
  split at h
  · exact h.keeps hk
  · exact h.keeps hk
  · exact h.keeps hk
  · exact CRel.mono hk.sub (fun k h => hk.mem k (.inl h)) h
theorem SRel.keeps {p : PV} {v : Value} (hk : KeepsG g F μ hf w F' μ' hf' w') (h : SRel F μ hf w p v) : SRel F' μ' hf' w' p v := by
  cases p <;> simp only [SRel] at * <;> first
    | exact h.keeps hk
    | (obtain ⟨rc, e, s, r⟩ := h; exact ⟨rc, e, s, fun i q x a b => (r i q x a b).keeps hk⟩)
theorem ARel.keeps {p : PV} {v : Value} (hk : KeepsG g F μ hf w F' μ' hf' w') (h : ARel F μ hf w p v) : ARel F' μ' hf' w' p v := by
  cases p <;> simp only [ARel] at * <;> first
    | exact h.keeps hk
    | (obtain ⟨rc, e, s, r⟩ := h; exact ⟨rc, e, s, fun i q x a b => (r i q x a b).keeps hk⟩)
theorem VRel.keeps {p : PV} {v : Value} (hk : KeepsG g F μ hf w F' μ' hf' w') (h : VRel F μ hf w p v) : VRel F' μ' hf' w' p v := by
  cases p <;> simp only [VRel] at * <;> first
    | exact h.keeps hk
    | (obtain ⟨rc, e, s, r⟩ := h; exact ⟨rc, e, s, fun i q x a b => (r i q x a b).keeps hk⟩)
theorem SRel.of_closed {p : PV} {v : Value} (hp : closed p = true) : SRel F μ hf w p v ↔ CRel F w p v := by
  cases p <;> (try (simp [V.closed] at hp; done)) <;> simp only [SRel, PRel]
  rename_i f cs
  cases cs with
  | cons c r => simp [V.closed] at hp
  | nil =>
    constructor
    · rintro ⟨rc, rfl, hs, _⟩
      have : rc = #[] := by simpa using hs
      subst this
      simpa using CRel.fn f
    · intro h
      cases h
      exact ⟨#[], by simp, rfl, by simp⟩
theorem SRel.oneCell {p : PV} {v : Value} (hp : xCO p = true) (h : SRel F μ hf w p v) : v.oneCell' = true := by
  cases p <;> simp [xCO] at hp <;> simp only [SRel, PRel] at h <;> first
    | exact h.oneCell
    | (obtain ⟨rc, e, _, _⟩ := h; subst e; rfl)
    | (obtain ⟨a, c, rfl, _, _⟩ := h; rfl)
    | (obtain ⟨⟨a, rfl⟩, _⟩ := h; rfl)
    | (obtain ⟨⟨_, rfl⟩, _⟩ := h; rfl)
end
def Spare (μ : Bid → Option Nat) (w : World) (b : Bid) (B : Blk) : Prop :=
  B.box = false → ∀ (k : Nat) (c : Array Value) (e : TypeId) (fz : Nat × Nat), μ b = some k → w.heap[k]? = some (.cells c e fz) → ∀ (j : Nat) (x : Value), B.els.length * B.esz ≤ j → c[j]? = some x →
    ∃ p, closed p = true ∧ ∀ (F : Nat → Prop) (w : World), CRel F w p x
def NoMark (μ : Bid → Option Nat) (w : World) (b : Bid) (B : Blk) : Prop :=
  B.box = false → B.esz ≠ 1 → ∀ (k : Nat) (c : Array Value) (e : TypeId) (fz : Nat × Nat), μ b = some k → w.heap[k]? = some (.cells c e fz) → ¬ (fz.1 ≤ c.size ∧ c.size < fz.2)
def EntL : List (List PV) → List MapEntry → Prop
  | [], [] => True
  | e :: es, x :: xs => (∃ k v, e = [k, v] ∧ (∀ (F : Nat → Prop) (w : World), CRel F w k x.key) ∧ clean v = true ∧ ∀ (F : Nat → Prop) (w : World), CRel F w v x.val) ∧ EntL es xs
  | _, _ => False
def EntRel (es : List (List PV)) (xs : Array MapEntry) : Prop := EntL es xs.toList
def xWI (w : World) (k : Nat) (B : Blk) : Prop := ∃ es xs clock, B = xBF es ∧ w.heap[k]? = some (.map xs clock) ∧ EntRel es xs
def xR2 (F : Nat → Prop) (μ : Bid → Option Nat) (hf : HF) (w : World) (k : Nat) (B : Blk) : Prop :=
  ∃ c e fz, w.heap[k]? = some (.cells c e fz) ∧ (∀ o, o < c.size → ¬ (fz.1 ≤ o ∧ o < fz.2)) ∧
      B.els.length * B.esz ≤ c.size ∧ ∀ i j el p, B.els[i]? = some el → el[j]? = some p → ∃ x, c[i * B.esz + j]? = some x ∧ SRel F μ hf w p x
def BRel (F : Nat → Prop) (μ : Bid → Option Nat) (hf : HF) (w : World) (b : Bid) (B : Blk) : Prop :=
  (0 < B.esz ∧ Spare μ w b B ∧ NoMark μ w b B) ∧ (∀ e ∈ B.els, e.length = B.esz) ∧ (B.box = false ∨ B.frz = true → ∀ e ∈ B.els, ∀ c ∈ e, closed c = true) ∧ (B.box = true → B.els.length = 1 ∨ ∃ es, B = xBF es) ∧
  match μ b with
  | none => B.els = [] ∧ B.box = false
  | some k => (B.frz = true → F k) ∧ (B.frz = false → ¬ F k) ∧ (xR2 F μ hf w k B ∨ xWI w k B)
theorem xKs {F : Nat → Prop} {μ : Bid → Option Nat} {hf : HF} {w : World} {b : Bid} {B : Blk}
    (h : 0 < B.esz ∧ (∀ e ∈ B.els, e.length = B.esz) ∧ (B.box = false ∨ B.frz = true → ∀ e ∈ B.els, ∀ c ∈ e, closed c = true) ∧ (B.box = true → B.els.length = 1) ∧
      match μ b with
      | none => B.els = [] ∧ B.box = false
      | some k => (B.frz = true → F k) ∧ (B.frz = false → ¬ F k) ∧ ∃ c e fz, w.heap[k]? = some (.cells c e fz) ∧ (∀ o, o < c.size → ¬ (fz.1 ≤ o ∧ o < fz.2)) ∧
          B.els.length * B.esz ≤ c.size ∧ ∀ i j el p, B.els[i]? = some el → el[j]? = some p → ∃ x, c[i * B.esz + j]? = some x ∧ SRel F μ hf w p x)
    (hs : Spare μ w b B) (hm : NoMark μ w b B) : BRel F μ hf w b B := by
  refine ⟨⟨h.1, hs, hm⟩, h.2.1, h.2.2.1, fun hb => .inl (h.2.2.2.1 hb), ?_⟩
  have := h.2.2.2.2
  split at this
  · exact this
  · exact ⟨this.1, this.2.1, .inl this.2.2⟩
theorem BRel.at {F : Nat → Prop} {μ : Bid → Option Nat} {hf : HF} {w : World} {b : Bid} {B : Blk} {k : Nat} (h : BRel F μ hf w b B) (hk : μ b = some k) : ∃ o, w.heap[k]? = some o ∧ ¬ NC w k := by
  have := h.2.2.2.2
  rw [hk] at this
  rcases this.2.2 with ⟨c, e, fz, hc, _⟩ | ⟨es, xs, n, _, hc, _⟩
  · exact ⟨_, hc, NC.not hc⟩
  · exact ⟨_, hc, NC.notMap hc⟩
theorem BRel.cells {F : Nat → Prop} {μ : Bid → Option Nat} {hf : HF} {w : World} {b : Bid} {B : Blk} {k : Nat} (h : BRel F μ hf w b B) (hk : μ b = some k) (hb : B.box = true → B.els.length = 1) :
    (B.frz = true → F k) ∧ (B.frz = false → ¬ F k) ∧ ∃ c e fz, w.heap[k]? = some (.cells c e fz) ∧ (∀ o, o < c.size → ¬ (fz.1 ≤ o ∧ o < fz.2)) ∧
      B.els.length * B.esz ≤ c.size ∧ ∀ i j el p, B.els[i]? = some el → el[j]? = some p → ∃ x, c[i * B.esz + j]? = some x ∧ SRel F μ hf w p x := by
  have := h.2.2.2.2
  rw [hk] at this
  refine ⟨this.1, this.2.1, ?_⟩
  rcases this.2.2 with h | ⟨es, xs, n, rfl, hc, _⟩
  · exact h
  · exact absurd (hb rfl) (by simp [xBF])
theorem BRel.cellsOf {F : Nat → Prop} {μ : Bid → Option Nat} {hf : HF} {w : World} {b : Bid} {B : Blk} {k : Nat} {c0 : Array Value} {e0 : TypeId} {fz0 : Nat × Nat} (h : BRel F μ hf w b B) (hk : μ b = some k) (hc0 : w.heap[k]? = some (.cells c0 e0 fz0)) :
    (B.frz = true → F k) ∧ (B.frz = false → ¬ F k) ∧ ∃ c e fz, w.heap[k]? = some (.cells c e fz) ∧ (∀ o, o < c.size → ¬ (fz.1 ≤ o ∧ o < fz.2)) ∧
      B.els.length * B.esz ≤ c.size ∧ ∀ i j el p, B.els[i]? = some el → el[j]? = some p → ∃ x, c[i * B.esz + j]? = some x ∧ SRel F μ hf w p x := by
  have := h.2.2.2.2
  rw [hk] at this
  refine ⟨this.1, this.2.1, ?_⟩
  rcases this.2.2 with h | ⟨es, xs, n, rfl, hc, _⟩
  · exact h
  · rw [hc0] at hc; cases hc
theorem BRel.one {F : Nat → Prop} {μ : Bid → Option Nat} {hf : HF} {w : World} {b : Bid} {B : Blk} {hw : Nat} (h : BRel F μ hf w b B) (h1 : hw = B.els.length) (h2 : hw ≤ B.els.length ∧ (B.box = true → hw ≤ 1)) (hb : B.box = true) : B.els.length = 1 := by
  rcases h.2.2.2.1 hb with e | ⟨es, rfl⟩
  · exact e
  · have := h2.2 rfl
    rw [h1] at this
    simp [xBF] at this
theorem BRel.map {F : Nat → Prop} {μ : Bid → Option Nat} {hf : HF} {w : World} {b : Bid} {B : Blk} {k : Nat} (h : BRel F μ hf w b B) (hk : μ b = some k) (hb : B.els.length = 2) (hbx : B.box = true) : ¬ F k ∧ xWI w k B := by
  have h5 := h.2.2.2.2
  rw [hk] at h5
  rcases h.2.2.2.1 hbx with h1 | ⟨es, rfl⟩
  · omega
  · refine ⟨h5.2.1 rfl, ?_⟩
    rcases h5.2.2 with ⟨c, e, fz, _, _, _, hr⟩ | h
    · obtain ⟨x, _, hx⟩ := hr 0 0 [.mp es] (.mp es) rfl rfl
      cases hx
    · exact h
structure Ctx where
  w0 : World
  F0 : Nat → Prop
  Wr : Nat → Prop
  M0 : Bid → Option Nat
  H0 : HF
  Ex : Nat → Prop
  ro : Option Nat
  base : Nat
abbrev Ctx.of (w0 : World) (F0 : Nat → Prop) (Wr : Nat → Prop) (M0 : Bid → Option Nat) (H0 : HF) : Ctx := ⟨w0, F0, Wr, M0, H0, fun _ => False, none, w0.heap.size⟩
def GlbC (Γ : Ctx) : Prop := ∀ p ∈ GT, Γ.F0 p.1 ∧ p.1 < Γ.w0.heap.size ∧ ¬ Γ.Wr p.1 ∧ 0 < p.2.length ∧ ∃ gv : Nat → Value, ∀ (j : Nat) (q : PV), p.2[j]? = some q → Γ.w0.cell? ⟨p.1, j, none⟩ = some (gv j) ∧ ∀ (F : Nat → Prop) (w : World), CRel F w q (gv j)
structure Inv (Γ : Ctx) (F : Nat → Prop) (μ : Bid → Option Nat) (hf : HF) (w : World) : Prop where
  os : w.os = Γ.w0.os
  tape : w.tape = Γ.w0.tape
  output : w.output = Γ.w0.output
  size : Γ.w0.heap.size ≤ w.heap.size
  frame : ∀ k, k < Γ.w0.heap.size → ¬ Γ.Wr k → w.heap[k]? = Γ.w0.heap[k]?
  lt : ∀ k, F k → k < w.heap.size
  F0 : ∀ k, Γ.F0 k → F k
  new : ∀ k, F k → Γ.F0 k ∨ Γ.w0.heap.size ≤ k ∨ Γ.Wr k
  blk : ∀ b B, hf b = some B → BRel F μ hf w b B
  inj : ∀ b b' B B' k, hf b = some B → hf b' = some B' → μ b = some k → μ b' = some k → b = b'
  own : ∀ b B k, hf b = some B → μ b = some k → Γ.w0.heap.size ≤ k ∨ Γ.Wr k
  gl : GlbC Γ
theorem Inv.glN {Γ : Ctx} {F : Nat → Prop} {μ : Bid → Option Nat} {hf : HF} {w : World} (hI : Inv Γ F μ hf w) (Γ' : Ctx) (h1 : Γ'.w0 = w) (hF : ∀ k, F k → Γ'.F0 k) (hW : ∀ k, k < Γ.w0.heap.size → ¬ Γ.Wr k → ¬ Γ'.Wr k) : GlbC Γ' := by
  intro p hp
  obtain ⟨g1, g2, g3, g4, gv, g5⟩ := hI.gl p hp
  refine ⟨hF _ (hI.F0 _ g1), by rw [h1]; exact Nat.lt_of_lt_of_le g2 hI.size, hW _ g2 g3, g4, gv, fun j q hq => ?_⟩
  rw [h1, xGR (hI.frame p.1 g2 g3)]
  exact g5 j q hq
theorem Inv.glob {Γ : Ctx} {F : Nat → Prop} {μ : Bid → Option Nat} {hf : HF} {w : World} (hI : Inv Γ F μ hf w) {p : Nat × List PV} (hp : p ∈ GT) : CRel F w (.sptr [p.2] 0 0) (.pointer (some ⟨p.1, 0, none⟩)) := by
  obtain ⟨h1, h2, h3, h4, gv, h5⟩ := hI.gl p hp
  have hm := hI.frame p.1 h2 h3
  have := CRel.sptr (F := F) (w := w) [p.2] 0 0 p.1 0 p.2.length (fun _ j => gv j) (hI.F0 _ h1) h4 (by simp) (fun i j e q a b => by
    cases i with
    | succ i => simp at a
    | zero =>
      simp at a; subst a
      simp only [Nat.zero_mul, Nat.zero_add]
      rw [xGR hm]
      exact (h5 j q b).1) (fun i j e q a b => by
    cases i with
    | succ i => simp at a
    | zero => simp at a; subst a; exact (h5 j q b).2 F w)
  simpa using this
def updH (hf : HF) (b : Bid) (B : Blk) : HF := fun b' => if b' = b then some B else hf b'
def updM (μ : Bid → Option Nat) (b : Bid) (m : Option Nat) : Bid → Option Nat := fun b' => if b' = b then m else μ b'
theorem BRel.keeps {g : Nat → Prop} {F F' : Nat → Prop} {μ μ' : Bid → Option Nat} {hf hf' : HF} {w w' : World} {b : Bid} {B : Blk}
    (h : BRel F μ hf w b B) (hk : KeepsG g F μ hf w F' μ' hf' w') (hμ : μ' b = μ b) (hF : ∀ k, μ b = some k → F' k → F k) (hm : ∀ k, μ b = some k → w'.heap[k]? = w.heap[k]?) : BRel F' μ' hf' w' b B := by
  obtain ⟨h1, h2, h3, h3', h4⟩ := h
  refine ⟨⟨h1.1, fun hbx k c e fz hk' hc j x hj hx => ?_, fun hbx hz k c e fz hk' hc => ?_⟩, h2, h3, h3', ?_⟩
  · rw [hμ] at hk'
    rw [hm k hk'] at hc
    exact h1.2.1 hbx k c e fz hk' hc j x hj hx
  · rw [hμ] at hk'
    rw [hm k hk'] at hc
    exact h1.2.2 hbx hz k c e fz hk' hc
  rw [hμ]
  cases hb : μ b with
  | none => rw [hb] at h4; exact h4
  | some k =>
    rw [hb] at h4
    obtain ⟨f1, f2, h4⟩ := h4
    refine ⟨fun h => hk.sub k (f1 h), fun h h' => f2 h (hF k hb h'), ?_⟩
    rcases h4 with ⟨c, e, fz, hc, hfz, hl, hr⟩ | ⟨es, xs, n, e1, hc, hr⟩
    · refine .inl ⟨c, e, fz, (hm k hb).trans hc, hfz, hl, fun i j el p a b => ?_⟩
      obtain ⟨x, hx, hs⟩ := hr i j el p a b
      exact ⟨x, hx, hs.keeps hk⟩
    · exact .inr ⟨es, xs, n, e1, (hm k hb).trans hc, hr⟩
theorem Spare.keeps {μ μ' : Bid → Option Nat} {w w' : World} {b b' : Bid} {B B' : Blk} (h : Spare μ w b B) (hbx : B'.box = B.box) (hl : B'.els.length = B.els.length) (hz : B'.esz = B.esz) (hμ : μ' b' = μ b) (hm : ∀ k, μ b = some k → w'.heap[k]? = w.heap[k]?) : Spare μ' w' b' B' := by
  intro hb k c e fz hk' hc j x hj hx
  rw [hμ] at hk'
  rw [hm k hk'] at hc
  exact h (hbx ▸ hb) k c e fz hk' hc j x (by rw [← hl, ← hz]; exact hj) hx
theorem NoMark.keeps {μ μ' : Bid → Option Nat} {w w' : World} {b b' : Bid} {B B' : Blk} (h : NoMark μ w b B) (hbx : B'.box = B.box) (hz : B'.esz = B.esz) (hμ : μ' b' = μ b) (hm : ∀ k, μ b = some k → w'.heap[k]? = w.heap[k]?) : NoMark μ' w' b' B' := by
  intro hb h1 k c e fz hk' hc
  rw [hμ] at hk'
  rw [hm k hk'] at hc
  exact h (hbx ▸ hb) (hz ▸ h1) k c e fz hk' hc
theorem xDW {μ μ' : Bid → Option Nat} {w w' : World} {b b' : Bid} {B B' : Blk} (h : Spare μ w b B ∧ NoMark μ w b B) (hbx : B'.box = B.box) (hl : B'.els.length = B.els.length) (hz : B'.esz = B.esz) (hμ : μ' b' = μ b) (hm : ∀ k, μ b = some k → w'.heap[k]? = w.heap[k]?) : Spare μ' w' b' B' ∧ NoMark μ' w' b' B' :=
  ⟨h.1.keeps hbx hl hz hμ hm, h.2.keeps hbx hz hμ hm⟩
theorem xEE {w w' : World} {k : Nat} (h : w'.heap[k]? = w.heap[k]?) : xA6 w' k = xA6 w k := by simp [xA6, h]
theorem Inv.upd {Γ : Ctx} {F : Nat → Prop} {μ : Bid → Option Nat} {hf : HF} {w w' : World} (hI : Inv Γ F μ hf w) (b : Bid) (B' : Blk) (m : Option Nat) (F' : Nat → Prop)
    (hos : w'.os = w.os) (htape : w'.tape = w.tape) (hout : w'.output = w.output) (hsz : w.heap.size ≤ w'.heap.size)
    (hkeep : ∀ k, k < w.heap.size → (∀ B, hf b = some B → B.frz = false → μ b ≠ some k) → w'.heap[k]? = w.heap[k]?)
    (hF : ∀ k, F' k ↔ F k ∨ (B'.frz = true ∧ m = some k))
    (hm : (∃ B, hf b = some B ∧ m = μ b) ∨ m = none ∨ ∃ k, m = some k ∧ (∀ b'' B, hf b'' = some B → μ b'' ≠ some k) ∧ ¬ F k ∧ Γ.w0.heap.size ≤ k ∧ k < w'.heap.size ∧ B'.frz = false)
    (hfr : ∀ B, hf b = some B → B.frz = true → B'.frz = true)
    (hext : ∀ B, hf b = some B → B'.box = B.box ∧ B.els.length ≤ B'.els.length ∧ (B'.els.length = B.els.length → B'.esz = B.esz ∧ m = μ b ∧ ∀ k, μ b = some k → xA6 w' k = xA6 w k))
    (hB : ∀ (_ : Keeps F μ hf w F' (updM μ b m) (updH hf b B') w'), BRel F' (updM μ b m) (updH hf b B') w' b B') :
    Inv Γ F' (updM μ b m) (updH hf b B') w' ∧ Keeps F μ hf w F' (updM μ b m) (updH hf b B') w' := by
  have hFmem : ∀ k, F k → w'.heap[k]? = w.heap[k]? := fun k hk => hkeep k (hI.lt k hk) fun B hb hfz hmu => by
    have := (hI.blk b B hb).2.2.2.2
    rw [hmu] at this
    exact this.2.1 hfz hk
  have hK : Keeps F μ hf w F' (updM μ b m) (updH hf b B') w' := by
    refine ⟨fun k hk => (hF k).2 (.inl hk), fun k hk => ?_, fun k hk => ?_, fun b2 B2 h2 => ?_⟩
    · rcases hk with hk | hk
      · exact hFmem k hk
      · obtain ⟨_, o, h1, h2⟩ := hk
        refine hkeep k (Array.getElem?_eq_some_iff.1 h1).1 fun B hb _ hmu => ?_
        obtain ⟨_, _, hc⟩ := (hI.blk b B hb).at hmu
        exact hc ⟨o, h1, h2⟩
    · rcases (hF k).1 hk with h | ⟨h, hmk⟩
      · exact .inl h
      · rcases hm with ⟨B, hb, hmu⟩ | hm | ⟨k', hm, _, _, _, _, hz⟩
        · obtain ⟨_, _, hc⟩ := (hI.blk b B hb).at (hmu.symm.trans hmk)
          exact .inr fun _ => hc
        · rw [hm] at hmk; cases hmk
        · rw [hz] at h; cases h
    by_cases e : b2 = b
    · subst e
      obtain ⟨a1, a2, a3⟩ := hext B2 h2
      refine ⟨B', by simp [updH], a1, a2, fun hl => ?_⟩
      obtain ⟨c1, c2, c3⟩ := a3 hl
      exact ⟨c1, by simp [updM, c2], c3⟩
    · refine ⟨B2, by simp [updH, e, h2], rfl, Nat.le_refl _, fun _ => ⟨rfl, by simp [updM, e], fun k hk => xEE (hkeep k ?_ ?_)⟩⟩
      · obtain ⟨_, hc, _⟩ := (hI.blk b2 B2 h2).at hk
        exact (Array.getElem?_eq_some_iff.1 hc).1
      · intro B hb _ hmu
        exact e (hI.inj b2 b B2 B k h2 hb hk hmu)
  refine ⟨⟨hos.trans hI.os, htape.trans hI.tape, hout.trans hI.output, Nat.le_trans hI.size hsz, ?_, ?_, ?_, ?_, ?_, ?_, ?_, hI.gl⟩, hK⟩
  · intro k hk hW
    rw [← hI.frame k hk hW]
    refine hkeep k (Nat.lt_of_lt_of_le hk hI.size) fun B hb hfz hmu => ?_
    rcases hI.own b B k hb hmu with h | h
    · omega
    · exact hW h
  · intro k hk
    rcases (hF k).1 hk with h | ⟨h, hmk⟩
    · exact Nat.lt_of_lt_of_le (hI.lt k h) hsz
    · rcases hm with ⟨B, hb, hmu⟩ | hm | ⟨k', hm, _, _, _, hlt, _⟩
      · obtain ⟨_, hc, _⟩ := (hI.blk b B hb).at (hmu.symm.trans hmk)
        exact Nat.lt_of_lt_of_le (Array.getElem?_eq_some_iff.1 hc).1 hsz
      · rw [hm] at hmk; cases hmk
      · rw [hm] at hmk; cases hmk; exact hlt
  · exact fun k hk => (hF k).2 (.inl (hI.F0 k hk))
  · intro k hk
    rcases (hF k).1 hk with h | ⟨h, hmk⟩
    · exact hI.new k h
    · rcases hm with ⟨B, hb, hmu⟩ | hm | ⟨k', hm, _, _, hle, _⟩
      · exact .inr (hI.own b B k hb (hmu ▸ hmk))
      · rw [hm] at hmk; cases hmk
      · rw [hm] at hmk; cases hmk; exact .inr (.inl hle)
  · intro b2 B2 h2
    by_cases e : b2 = b
    · subst e
      have : B2 = B' := by simpa [updH] using h2.symm
      subst this
      exact hB hK
    · have h2' : hf b2 = some B2 := by simpa [updH, e] using h2
      refine (hI.blk b2 B2 h2').keeps hK (by simp [updM, e]) (fun k hk hk' => ?_) (fun k hk => hkeep k ?_ ?_)
      · rcases (hF k).1 hk' with h | ⟨h, hmk⟩
        · exact h
        · exfalso
          rcases hm with ⟨B, hb, hmu⟩ | hm | ⟨k', hm, hfree, _⟩
          · exact e (hI.inj b2 b B2 B k h2' hb hk (hmu ▸ hmk))
          · rw [hm] at hmk; cases hmk
          · rw [hm] at hmk; cases hmk; exact hfree b2 B2 h2' hk
      · obtain ⟨_, hc, _⟩ := (hI.blk b2 B2 h2').at hk
        exact (Array.getElem?_eq_some_iff.1 hc).1
      · intro B hb _ hmu
        exact e (hI.inj b2 b B2 B k h2' hb hk hmu)
  · intro b1 b2 B1 B2 k h1 h2 m1 m2
    have key : ∀ b2 B2, b2 ≠ b → updH hf b B' b2 = some B2 → updM μ b m b2 = some k → m = some k → False := by
      intro b2 B2 e h2 m2 hmk
      have h2' : hf b2 = some B2 := by simpa [updH, e] using h2
      have m2' : μ b2 = some k := by simpa [updM, e] using m2
      rcases hm with ⟨B, hb, hmu⟩ | hm | ⟨k', hm, hfree, _⟩
      · exact e (hI.inj b2 b B2 B k h2' hb m2' (hmu ▸ hmk))
      · rw [hm] at hmk; cases hmk
      · rw [hm] at hmk; cases hmk; exact hfree b2 B2 h2' m2'
    by_cases e1 : b1 = b
    · by_cases e2 : b2 = b
      · rw [e1, e2]
      · exact (key b2 B2 e2 h2 m2 (by simpa [updM, e1] using m1)).elim
    · by_cases e2 : b2 = b
      · exact (key b1 B1 e1 h1 m1 (by simpa [updM, e2] using m2)).elim
      · exact hI.inj b1 b2 B1 B2 k (by simpa [updH, e1] using h1) (by simpa [updH, e2] using h2) (by simpa [updM, e1] using m1) (by simpa [updM, e2] using m2)
  · intro b2 B2 k h2 m2
    by_cases e : b2 = b
    · have hmk : m = some k := by simpa [updM, e] using m2
      rcases hm with ⟨B, hb, hmu⟩ | hm | ⟨k', hm, _, _, hle, _⟩
      · exact hI.own b B k hb (hmu ▸ hmk)
      · rw [hm] at hmk; cases hmk
      · rw [hm] at hmk; cases hmk; exact .inl hle
    · exact hI.own b2 B2 k (by simpa [updH, e] using h2) (by simpa [updM, e] using m2)
end Go.V
namespace Go.V
def xIu : Value → Option PV
  | .bool b => some (.bool b)
  | .int k n => some (.int k n)
  | .string s => some (.str s.data.toList)
  | .slice none 0 0 => some .nils
  | .pointer none => some .nilp
  | .nilFunc => some .nilf
  | .nilIface => some .nili
  | .map none => some .nilm
  | _ => none
def xFo : List Value → Option (List PV)
  | [] => some []
  | v :: r => (xIu v).bind fun p => (xFo r).map (p :: ·)
def xIt : Value → Option PV
  | .agg cs => (xFo cs.toList).map .agg
  | v => xIu v
def gtOf : List (Nat × List PV) → Nat → Option (List PV)
  | [], _ => none
  | (g, row) :: r, x => match Nat.beq g x with | true => some row | false => gtOf r x
theorem xN1 : ∀ {l : List (Nat × List PV)} {x : Nat} {row : List PV}, gtOf l x = some row → (x, row) ∈ l
  | [], _, _, h => by cases h
  | (g, r0) :: r, x, row, h => by
    unfold gtOf at h
    split at h
    · rename_i e
      have := Nat.eq_of_beq_eq_true e
      cases h; subst this; simp
    · exact List.mem_cons_of_mem _ (xN1 h)
def cx : Operand → Option VX
  | .tmp t => some (.t t)
  | .const v => (xIt v).map .c
  | .func f => if f < bnd then some (.c (.fn f [])) else none
  | .global g => (gtOf GT g).map fun row => .c (.sptr [row] 0 0)
def cxs : List Operand → Option (List VX)
  | [] => some []
  | x :: r => (cx x).bind fun y => (cxs r).map (y :: ·)
def cxo : Option Operand → Option (Option VX)
  | none => some none
  | some x => (cx x).map some
def cxps : List (Nat × Operand) → Option (List (Nat × VX))
  | [] => some []
  | (i, x) :: r => (cx x).bind fun y => (cxps r).map ((i, y) :: ·)
section
variable (P : Program)
def xC1 (t : TypeId) : Option Bool := (P.underlying t).map fun | .struct _ => true | .array _ _ => true | _ => false
def xA5 (t : TypeId) : Option Nat := (P.info? t).map (·.size)
def xFK (t : TypeId) : Option Nat := (P.info? t).map (·.bytes)
def xDh (t : TypeId) : Option (List PV) := ((P.info? t).bind (·.zero)).bind fun z => xFo z.cells.toList
def xD3 (flat : TypeId → Option (List Nat)) : Nat → List Field → Option (List Nat)
  | _, [] => some []
  | n, f :: r => (flat f.type).bind fun m => if f.name ≠ "_" ∧ f.offset = n ∧ xA5 P f.type = some m.length then (xD3 flat (n + m.length) r).map (m ++ ·) else none
def xJK : Nat → TypeId → Option (List Nat)
  | 0, _ => none
  | d + 1, t => (P.underlying t).bind fun
    | .bool => some [0]
    | .int _ => some [1]
    | .string => some [2]
    | .struct fs => if P.stoodInHeld t then none else xD3 P (xJK d) 0 fs.toList
    | _ => none
def xJj : Operand → Bool
  | .const (.slice none 0 0) => true
  | _ => false
def xIZ : Operand → Bool
  | .const (.pointer none) => true
  | _ => false
def xIa : Operand → Bool
  | .const .nilIface => true
  | _ => false
def meth (t : TypeId) (name : String) : Option Nat := (P.info? t).bind fun i => (i.methods.find? (·.name == name)).bind fun m => if m.path.isEmpty = true then (match m.func with
  | some (f, false) => (P.underlying t).bind fun | .pointer _ => none | _ => some f
  | _ => none) else none
def xUA (name : String) : List (Nat × Nat) := (List.range P.types.size).filterMap fun t => (meth P t name).map fun f => (t, f)
def xEB (fs : Array Field) : List (Nat × VX) → Option (List (Nat × Nat × VX))
  | [] => some []
  | (i, x) :: r => (fs[i]?).bind fun f => (xA5 P f.type).bind fun n => (xEB fs r).map ((f.offset, n, x) :: ·)
def xGU (esz : Nat) (l : List (Nat × VX)) : List (Nat × Nat × VX) := l.map fun (i, x) => (i * esz, esz, x)
def xJu (op : BinOp) (t : TypeId) (x y : Operand) : Option VOp :=
  (P.underlying t).bind fun
  | .int _ | .string => (cx x).bind fun a => (cx y).map fun b => .bin op a b
  | .bool => (cx x).bind fun a => (cx y).bind fun b => match op with | .eql => some (.eqb false a b) | .neq => some (.eqb true a b) | _ => none
  | .slice _ =>
    match op with
    | .eql => if xJj y then (cx x).map fun a => .isnil false a else none
    | .neq => if xJj y then (cx x).map fun a => .isnil true a else none
    | _ => none
  | .interface _ =>
    match op with
    | .eql => if xIa y then (cx x).map fun a => .isnili false a else none
    | .neq => if xIa y then (cx x).map fun a => .isnili true a else none
    | _ => none
  | .pointer _ =>
    match op with
    | .eql => if xIZ y then (cx x).map fun a => .eqc false [7] a (.c .nilp) else none
    | .neq => if xIZ y then (cx x).map fun a => .eqc true [7] a (.c .nilp) else none
    | _ => none
  | .struct _ =>
    if P.eqGuardType P.depth t then none else
    (xJK P 20 t).bind fun ks =>
    if ks = [7] then none else
    match op with
    | .eql => (cx x).bind fun a => (cx y).map fun b => .eqc false ks a b
    | .neq => (cx x).bind fun a => (cx y).map fun b => .eqc true ks a b
    | _ => none
  | _ => none
def xBh (c : Call) : Option VOp :=
  match c.callee with
  | .value f => (cx f).bind fun g => (cxs c.args.toList).map fun xs => .call g xs
  | .invoke x name => (cx x).bind fun y => (cxs c.args.toList).map fun xs => .call (.c (.mth (xUA P name))) (y :: xs)
  | .builtin b =>
    match b, c.args.toList, c.argTypes.toList with
    | .len, [x], [t] => (P.underlying t).bind fun
      | .string => (cx x).map .lenS
      | .slice _ => (cx x).map .len
      | .array n _ => some (.copy (.c (.int .i64 n)))
      | _ => none
    | .append, [x, y], [t, u] => (P.underlying t).bind fun
      | .slice e => (P.underlying u).bind fun
        | .slice _ | .string => (cx x).bind fun a => (cx y).bind fun b => (xA5 P e).bind fun n => (xFK P e).bind fun m => (xDh P e).map fun z => .append n m z a b
        | .int _ => (cx x).bind fun a => (cx y).bind fun b => (xA5 P e).bind fun n => (xFK P e).bind fun m => (xDh P e).map fun z => .appZ n m z a b
        | _ => none
      | _ => none
    | .copy, [x, y], [t, _] => (P.underlying t).bind fun
      | .slice e => (cx x).bind fun a => (cx y).bind fun b => (xA5 P e).bind fun n => if 0 < n then some (.copyS n a b) else none
      | _ => none
    | .cap, [x], [t] => (P.underlying t).bind fun
      | .slice _ => (cx x).map .cap
      | _ => none
    | .clear, [x], [t] => (P.underlying t).bind fun
      | .slice e => (cx x).bind fun a => (xA5 P e).bind fun n => (xDh P e).map fun z => .clear n z a
      | _ => none
    | .max, [x, y], _ => (cx x).bind fun a => (cx y).map fun b => .minmax true a b
    | .min, [x, y], _ => (cx x).bind fun a => (cx y).map fun b => .minmax false a b
    | _, _, _ => none
def xTt (t : TypeId) : Option PV := ((P.info? t).bind (·.zero)).bind xIu
def xIW (t : TypeId) : Option Nat := (P.underlying t).bind fun | .bool => some 0 | .int _ => some 1 | .string => some 2 | _ => none
def xAQ (o : Op) : Option VOp :=
  match o with
  | .move x | .assign x => (cx x).map .copy
  | .pick c a b => (cx c).bind fun c => (cx a).bind fun a => (cx b).map fun b => .pick c a b
  | .alloc e => (xDh P e).map .alloc
  | .box _ x => (cx x).map .box
  | .build t ps => (cxps ps.toList).bind fun qs => (xDh P t).bind fun z => (P.underlying t).bind fun
    | .struct fs => if (fs.toList.all fun f => (xA5 P f.type).isSome) = true then (xEB P fs qs).map fun rs => .build z rs else none
    | .array _ e => (xA5 P e).map fun n => .build z (xGU n qs)
    | _ => none
  | .buildSlice t n ps => (P.underlying t).bind fun
    | .slice e => (xA5 P e).bind fun m => (xDh P e).bind fun z => (cxps ps.toList).bind fun qs => if n * m ≤ 16777216 ∧ 0 < m ∧ z.length = m then some (.bslice m z n qs) else none
    | _ => none
  | .load t a => (xC1 P t).bind fun g => (xA5 P t).bind fun n => (cx a).map fun x => .load g n x
  | .store t a x => (xA5 P t).bind fun n => (cx a).bind fun a => (cx x).map fun x => .store n a x
  | .binOp op t x y _ => xJu P op t x y
  | .unOp .not _ x => (cx x).map .not
  | .unOp .neg t x => (P.underlying t).bind fun | .int k => (cx x).map fun x => .bin .sub (.c (.int k 0)) x | _ => none
  | .unOp .xor t x => (P.underlying t).bind fun | .int k => (cx x).map fun x => .bin .xor (.c (.int k (if k.signed then -1 else k.max))) x | _ => none
  | .convert s d x => (P.underlying s).bind fun sd => (P.underlying d).bind fun dd => (cx x).bind fun x => match sd, dd with
    | .int _, .int k => some (.conv k x)
    | .string, .string => some (.cstr x)
    | .string, .slice e => (P.underlying e).bind fun | .int .u8 => some (.s2b x) | _ => none
    | .slice e, .string => (P.underlying e).bind fun | .int .u8 => some (.b2s x) | _ => none
    | _, _ => none
  | .makeFunc (.func f) first caps => if f < bnd then (cxs (first.toList ++ caps.toList)).map (.fn (f + bnd * first.size)) else none
  | .makeSlice t l c => (P.underlying t).bind fun
    | .slice e => (xA5 P e).bind fun n => (xFK P e).bind fun m => (xDh P e).bind fun z => (cx l).bind fun l => (cx c).bind fun c => if z.length = n ∧ 0 < n then some (.mkslice m z l c) else none
    | _ => none
  | .slice t x lo hi mx => (cx x).bind fun x => (cxo lo).bind fun lo => (cxo hi).bind fun hi => (cxo mx).bind fun mx => (P.underlying t).bind fun
    | .string => if mx.isNone then some (.slstr x lo hi) else none
    | .slice e => (xA5 P e).bind fun n => if (mx.isSome → hi.isSome) ∧ 0 < n then some (.slsl n x lo hi mx) else none
    | .array n e => (xA5 P e).bind fun m => if mx.isNone then some (.slarr n m x lo hi) else none
    | _ => none
  | .fieldAddr s x i => (cx x).bind fun x => (P.underlying s).bind fun
    | .struct fs => (fs[i]?).bind fun f => (xA5 P f.type).bind fun n => if n = 0 then none else some (.faddr f.offset x)
    | _ => none
  | .field s x i => (cx x).bind fun x => (P.underlying s).bind fun
    | .struct fs => (fs[i]?).bind fun f => (xA5 P f.type).bind fun n => (xC1 P f.type).map fun g => .field g f.offset n x
    | _ => none
  | .indexAddr t x i => (cx x).bind fun x => (cx i).bind fun i => (P.underlying t).bind fun
    | .slice e => (xA5 P e).bind fun n => some (.iaddr n x i)
    | .array m e => (xA5 P e).bind fun n => some (.iaddrA m n x i)
    | _ => none
  | .index t x i => (cx x).bind fun x => (cx i).bind fun i => (P.underlying t).bind fun
    | .array m e => (xA5 P e).bind fun n => (xC1 P e).map fun g => .indexA g m n x i
    | .string => some (.indexS x i)
    | _ => none
  | .nilCheck x => (cx x).map .nilc
  | .makeInterface t x => (P.underlying t).bind fun | .interface _ => none | _ => (cx x).map (.mkifc t)
  | .extract x i => (cx x).map fun x => .extract x i
  | .makeMap _ none => some .mkmap
  | .lookup t x k ok => (P.underlying t).bind fun
    | .map kt e => (xIW P kt).bind fun kk => (xTt P e).bind fun z => (cx x).bind fun x => (cx k).map fun k => .mlook kk z ok x k
    | _ => none
  | .mapUpdate t x k v => (P.underlying t).bind fun
    | .map kt _ => (xIW P kt).bind fun kk => (cx x).bind fun x => (cx k).bind fun k => (cx v).map fun v => .mset kk x k v
    | _ => none
  | .call c => xBh P c
  | _ => none
end
def VX.tmps : VX → List Nat
  | .t n => [n]
  | .c _ => []
abbrev VOper.e (d : Nat) (op : VOp) (s : Nat) : VOper := ⟨some d, op, none, s, []⟩
abbrev VOper.f (d : Nat) (op : VOp) (s : Nat) (p : List Nat) : VOper := ⟨some d, op, none, s, p⟩
abbrev VOper.g (d : Nat) (op : VOp) (a b : Nat) (c : Bool) (s : Nat) (p : List Nat) : VOper := ⟨some d, op, some (a, b, c), s, p⟩
abbrev VOper.h (op : VOp) (s : Nat) (p : List Nat) : VOper := ⟨none, op, none, s, p⟩
abbrev VOper.k (op : VOp) (a b : Nat) (c : Bool) (s : Nat) (p : List Nat) : VOper := ⟨none, op, some (a, b, c), s, p⟩
inductive VCode where
  | skip
  | region (id : Nat) (draw : Bool) (ops : List VOper)
  | seq (a b : VCode)
  | cond (c : VX) (a b : VCode)
  | block (id : Nat) (a : VCode)
  | loop (a : VCode)
  | exit (id : Nat)
  | scope (a : VCode)
  | label (l : Nat)
  | ret
  | range (g : VX) (ps : List Nat) (asg body : VCode)
  | bad
  deriving Inhabited, Repr
def preOf (o : Oper) (pres : List (List Nat)) : Option (List Nat) :=
  (o.after.toList.filter (Region.binds .any)).foldr (fun e acc => acc.bind fun l => if e.on < pres.length then some (e.on :: ((pres.getD e.on []) ++ l)) else none) (some [])
def dstOk : Option Nat → Nat → Bool
  | some d, nt => decide (d < nt)
  | none, _ => true
def xIv (P : Program) (nt id i : Nat) (ops : Array Oper) (o : Oper) (pres : List (List Nat)) : Option VOper :=
  (preOf o pres).bind fun pre =>
  if dstOk o.dst nt = true ∧ i < 1024 then
    match o.guard with
    | none => some ⟨o.dst, (xAQ P o.op).getD .bad, none, (id * 1024 + i) * 8, pre.eraseDups⟩
    | some (g, want) => ((ops[g]?).bind (·.dst)).map fun d => ⟨o.dst, (xAQ P o.op).getD .bad, some (g, d, want), (id * 1024 + i) * 8, pre.eraseDups⟩
  else none
def xDe (P : Program) (nt id : Nat) (ops : Array Oper) : List Oper → Nat → List (List Nat) → Option (List VOper)
  | [], _, _ => some []
  | o :: r, i, pres => (xIv P nt id i ops o pres).bind fun v => (xDe P nt id ops r (i + 1) (pres ++ [v.pre])).map (v :: ·)
def VOp.operands : VOp → List VX
  | .copy x | .box x | .not x | .conv _ x | .s2b x | .b2s x | .faddr _ x | .field _ _ _ x | .extract x _ | .len x | .lenS x | .cstr x | .nilc x | .mkifc _ x | .isnil _ x | .isnili _ x | .load _ _ x | .cap x | .clear _ _ x => [x]
  | .alloc _ | .mkmap | .bad => []
  | .pick c a b => [c, a, b]
  | .build _ ps => ps.map fun p => p.2.2
  | .bslice _ _ _ ps => ps.map fun p => p.2
  | .store _ a x | .bin _ a x | .eqb _ a x | .eqc _ _ a x | .mkslice _ _ a x | .iaddr _ a x | .iaddrA _ _ a x | .indexA _ _ _ a x | .indexS a x | .append _ _ _ a x | .copyS _ a x | .minmax _ a x | .appZ _ _ _ a x | .mlook _ _ _ a x => [a, x]
  | .mset _ x k v => [x, k, v]
  | .fn _ cs => cs
  | .slstr x lo hi => x :: (lo.toList ++ hi.toList)
  | .slsl _ x lo hi mx => x :: (lo.toList ++ hi.toList ++ mx.toList)
  | .slarr _ _ x lo hi => x :: (lo.toList ++ hi.toList)
  | .call f xs => f :: xs
def VOper.looks (o : VOper) : List Nat := (match o.guard with | some (_, d, _) => [d] | none => []) ++ o.op.operands.flatMap VX.tmps
def VOper.apart (x y : VOper) : Bool :=
  (match x.dst with | some d => !(y.looks.contains d) && y.dst != some d | none => true) && (match y.dst with | some d => !(x.looks.contains d) | none => true)
def xR1 (vs : List VOper) : Bool :=
  (List.range vs.length).all fun j => (List.range j).all fun i => ((vs.getD j default).pre.contains i) || (vs.getD i default).apart (vs.getD j default)
def VOper.bare (o : VOper) : VOper := { o with pre := [] }
def cmp (P : Program) (nt : Nat) : Code → Option VCode
  | .skip => some .skip
  | .region id ops draw => (xDe P nt id ops ops.toList 0 []).bind fun vs => if draw = false ∨ (P.follows .mixedOrders = true ∧ xR1 vs = true) then some (.region id draw (if draw = true then vs else vs.map VOper.bare)) else none
  | .seq a b => (cmp P nt a).bind fun x => (cmp P nt b).map fun y => .seq x y
  | .cond c a b => (cx c).bind fun c => (cmp P nt a).bind fun x => (cmp P nt b).map fun y => .cond c x y
  | .block id a => (cmp P nt a).map (.block id)
  | .loop a => (cmp P nt a).map .loop
  | .exit id => some (.exit id)
  | .scope a => (cmp P nt a).map .scope
  | .label l => some (.label l)
  | .ret => some .ret
  | .rangeFunc g ps asg body => (cx g).bind fun g => (cmp P nt asg).bind fun x => (cmp P nt body).map fun y => .range g ps.toList x y
  | _ => some .bad
end Go.V
set_option linter.unusedVariables false
set_option linter.unusedSimpArgs false
namespace Go.V
theorem extr1 {α : Type} (A B : Array α) : (A ++ B).extract 0 A.size = A := by
  apply Array.ext'
  rw [Array.toList_extract, Array.toList_append, List.extract_eq_take_drop]
  simp
theorem extr2 {α : Type} (A B : Array α) : (A ++ B).extract A.size (A ++ B).size = B := by
  apply Array.ext'
  rw [Array.toList_extract, Array.toList_append, List.extract_eq_take_drop]
  simp only [Array.size_append, Nat.add_sub_cancel_left]
  rw [List.drop_left' (by simp), List.take_of_length_le (by simp)]
def TRel (F : Nat → Prop) (μ : Bid → Option Nat) (hf : HF) (w : World) (tf : TF) (a : Act) : Prop :=
  ∀ t p, tf t = some p → VRel F μ hf w p (a.tmps.getD t undef)
def xAj (hf : HF) : List (Bid × Blk) → HF
  | [] => hf
  | (b, B) :: r => xAj (updH hf b B) r
section
variable {F : Nat → Prop} {μ : Bid → Option Nat} {hf : HF} {w : World}
theorem xCW {b : Bool} {v : Value} (h : VRel F μ hf w (.bool b) v) : v = .bool b := by simp only [VRel, ARel, SRel, PRel] at h; cases h; rfl
theorem xBO {k : IntKind} {n : Int} {v : Value} (h : VRel F μ hf w (.int k n) v) : v = .int k n := by simp only [VRel, ARel, SRel, PRel] at h; cases h; rfl
theorem xCG {s : List UInt8} {v : Value} (h : VRel F μ hf w (.str s) v) : v = .string ⟨s.toArray⟩ := by simp only [VRel, ARel, SRel, PRel] at h; cases h; rfl
theorem xCD {v : Value} (h : VRel F μ hf w .nils v) : v = .slice none 0 0 := by simp only [VRel, ARel, SRel, PRel] at h; cases h; rfl
theorem xFh {v : Value} (h : VRel F μ hf w .she v) : ∃ a cap, v = .slice (some a) 0 cap := by simp only [VRel, ARel, SRel, PRel] at h; cases h; exact ⟨_, _, rfl⟩
theorem xTP {v : Value} (h : VRel F μ hf w .nilp v) : v = .pointer none := by simp only [VRel, ARel, SRel, PRel] at h; cases h; rfl
theorem xTQ {v : Value} (h : VRel F μ hf w .nili v) : v = .nilIface := by simp only [VRel, ARel, SRel, PRel] at h; cases h; rfl
theorem xVt {l : Nat} {v : Value} (h : VRel F μ hf w (.yld l) v) : v = .func (.yield l) #[] #[] := by simp only [VRel, ARel, SRel, PRel] at h; cases h; rfl
theorem xQ5 {t : Nat} {cs : List PV} {v : Value} (h : VRel F μ hf w (.ifc t cs) v) : ∃ rc : Array Value, v = .iface t (.agg rc) ∧ rc.size = cs.length ∧ ∀ (i : Nat) (p : PV) (x : Value), cs[i]? = some p → rc[i]? = some x → CRel F w p x := by simp only [VRel, ARel, SRel, PRel] at h; cases h; exact ⟨_, rfl, by assumption, by assumption⟩
theorem xBp {b : Bid} {hw off len : Nat} {v : Value} (h : VRel F μ hf w (.own b hw off len) v) : OwnRel μ hf w b hw off len v := h
theorem xEN {b : Bid} {hw i j : Nat} {v : Value} (h : VRel F μ hf w (.ptr b hw i j) v) : PtrRel μ hf b hw i j v := h
theorem xD0 {ex : Bool} {l : List (List PV)} {v : Value} (h : VRel F μ hf w (.sh ex l) v) : CRel F w (.sh ex l) v := h
theorem xFB {l : List (List PV)} {i j : Nat} {v : Value} (h : VRel F μ hf w (.sptr l i j) v) : CRel F w (.sptr l i j) v := h
theorem xFi {cs : List PV} {v : Value} (h : VRel F μ hf w (.agg cs) v) : ∃ vs : Array Value, v = .agg vs ∧ vs.size = cs.length ∧ ∀ (i : Nat) (q : PV) (x : Value), cs[i]? = some q → vs[i]? = some x → SRel F μ hf w q x := h
theorem xQ4 {cs : List PV} {v : Value} (h : VRel F μ hf w (.tup cs) v) : ∃ vs : Array Value, v = .tuple vs ∧ vs.size = cs.length ∧ ∀ (i : Nat) (q : PV) (x : Value), cs[i]? = some q → vs[i]? = some x → ARel F μ hf w q x := h
theorem xQ6 {f : Nat} {cs : List PV} {v : Value} (h : VRel F μ hf w (.fn f cs) v) : ∃ rc : Array Value, v = .func (.func (fnId f)) (rc.extract 0 (fnN f)) (rc.extract (fnN f) rc.size) ∧ rc.size = cs.length ∧ ∀ (i : Nat) (q : PV) (x : Value), cs[i]? = some q → rc[i]? = some x → PRel F μ hf w q x := h
theorem VRel.of_C {p : PV} {v : Value} (h : CRel F w p v) : VRel F μ hf w p v := by
  have hs := (SRel.of_closed (μ := μ) (hf := hf) h.closed).2 h
  cases p <;> first | exact hs | (cases h; done)
theorem VRel.of_S' {p : PV} {v : Value} (h : SRel F μ hf w p v) : VRel F μ hf w p v := by
  cases p <;> first | exact h | exact h.elim
theorem ARel.of_S' {p : PV} {v : Value} (h : SRel F μ hf w p v) : ARel F μ hf w p v := by
  cases p <;> first | exact h | exact h.elim
theorem xE5 {p : PV} {v : Value} (h : VRel F μ hf w p v) (hc : (xAY p).all xCO = true) :
    v.cells.size = (xAY p).length ∧ (∀ (i : Nat) (q : PV), (xAY p)[i]? = some q → ∃ x, v.cells[i]? = some x ∧ SRel F μ hf w q x ∧ x.oneCell' = true) := by
  have one : ∀ (v : Value), v.oneCell' = true → v.cells = #[v] := by intro v hv; cases v <;> first | rfl | (simp [Value.oneCell'] at hv; done)
  have scal : ∀ q : PV, xAY q = [q] → xCO q = true → SRel F μ hf w q v →
      v.cells.size = (xAY q).length ∧ (∀ (i : Nat) (q' : PV), (xAY q)[i]? = some q' → ∃ x, v.cells[i]? = some x ∧ SRel F μ hf w q' x ∧ x.oneCell' = true) := by
    intro q hq hok hs
    have h1 := hs.oneCell hok
    rw [hq, one v h1]
    refine ⟨rfl, fun i q' hi => ?_⟩
    cases i with
    | zero => simp at hi; subst hi; exact ⟨v, rfl, hs, h1⟩
    | succ i => simp at hi
  cases p with
  | agg cs =>
    obtain ⟨vs, rfl, hs, hr⟩ := xFi h
    refine ⟨hs, fun i q hi => ?_⟩
    have hlt : i < cs.length := (List.getElem?_eq_some_iff.1 hi).1
    have hx : vs[i]? = some (vs[i]'(by omega)) := Array.getElem?_eq_getElem (by omega)
    have hS := hr i q _ hi hx
    have hok : xCO q = true := by
      rw [List.all_eq_true] at hc
      exact hc q (List.mem_of_getElem? hi)
    exact ⟨_, hx, hS, hS.oneCell hok⟩
  | tup vs => simp [xAY, xCO] at hc
  | dead => simp [xAY, xCO] at hc
  | mth _ => simp [xAY, xCO] at hc
  | mp _ => simp [xAY, xCO] at hc
  | _ => exact scal _ rfl rfl h
theorem xGu {v : Value} {p : PV} (h : xIu v = some p) : CRel F w p v := by
  unfold xIu at h
  split at h <;> (try (cases h; done)) <;> (cases h; first | constructor | skip)
theorem xDR : ∀ {vs : List Value} {ps : List PV}, xFo vs = some ps → ps.length = vs.length ∧ ∀ (i : Nat) (p : PV) (v : Value), ps[i]? = some p → vs[i]? = some v → CRel F w p v
  | [], ps, h => by cases h; exact ⟨rfl, by simp⟩
  | v :: r, ps, h => by
    simp only [xFo] at h
    cases h1 : xIu v with
    | none => simp [h1] at h
    | some p =>
      cases h2 : xFo r with
      | none => simp [h1, h2] at h
      | some q =>
        simp [h1, h2] at h
        subst h
        obtain ⟨hl, hr⟩ := xDR h2
        refine ⟨by simp [hl], fun i p' v' a b => ?_⟩
        cases i with
        | zero => simp at a b; subst a; subst b; exact xGu h1
        | succ i => exact hr i p' v' (by simpa using a) (by simpa using b)
theorem xM0 {v : Value} {p : PV} (h : xIt v = some p) : VRel F μ hf w p v := by
  cases v with
  | agg cs =>
    simp only [xIt] at h
    cases h1 : xFo cs.toList with
    | none => simp [h1] at h
    | some ps =>
      simp [h1] at h
      subst h
      obtain ⟨hl, hr⟩ := xDR (F := F) (w := w) h1
      refine ⟨cs, rfl, by simpa using hl.symm, fun i q x a b => ?_⟩
      have hC := hr i q x a (by simpa using b)
      exact (SRel.of_closed hC.closed).2 hC
  | _ => exact VRel.of_C (xGu h)
theorem xAO {Γ : Ctx} (hI : Inv Γ F μ hf w) {a : Act} {tf : TF} {x : Operand} {vx : VX} {p : PV} (hT : TRel F μ hf w tf a) (h : cx x = some vx) (he : ev tf vx = some p) : VRel F μ hf w p (a.eval x) := by
  cases x with
  | tmp t => cases h; exact hT t p he
  | const v =>
    simp only [cx] at h
    cases h1 : xIt v with
    | none => simp [h1] at h
    | some q => simp [h1] at h; subst h; cases he; exact xM0 h1
  | global g =>
    simp only [cx] at h
    cases h1 : gtOf GT g with
    | none => simp [h1] at h
    | some row =>
      simp [h1] at h
      subst h
      cases he
      exact VRel.of_C (hI.glob (xN1 h1))
  | func f =>
    simp only [cx] at h
    split at h
    · rename_i hb
      cases h
      cases he
      have e1 : fnId f = f := Nat.mod_eq_of_lt hb
      exact ⟨#[], by rw [e1]; simp; rfl, rfl, by simp⟩
    · cases h
theorem Inv.same {Γ : Ctx} {w' : World} (hI : Inv Γ F μ hf w) (hh : w'.heap = w.heap) (hos : w'.os = w.os) (ht : w'.tape = w.tape) (ho : w'.output = w.output) :
    Inv Γ F μ hf w' ∧ Keeps F μ hf w F μ hf w' := by
  have hk : Keeps F μ hf w F μ hf w' := ⟨fun _ h => h, fun _ _ => by rw [hh], fun _ h => .inl h, fun b B hb => ⟨B, hb, rfl, Nat.le_refl _, fun _ => ⟨rfl, rfl, fun k _ => by simp [xA6, hh]⟩⟩⟩
  refine ⟨⟨hos.trans hI.os, ht.trans hI.tape, ho.trans hI.output, by rw [hh]; exact hI.size, fun k a b => by rw [hh]; exact hI.frame k a b, fun k a => by rw [hh]; exact hI.lt k a, hI.F0, hI.new, fun b B hb => (hI.blk b B hb).keeps hk rfl (fun _ _ h => h) (fun _ _ => by rw [hh]), hI.inj, hI.own, hI.gl⟩, hk⟩
theorem xOV {c : Array Value} {B : Blk} (h : c.size ≤ B.els.length * B.esz) : B.box = false → ∀ (j : Nat) (x : Value), B.els.length * B.esz ≤ j → c[j]? = some x → ∃ p, closed p = true ∧ ∀ (F : Nat → Prop) (w : World), CRel F w p x :=
  fun _ j x hj hx => absurd (Array.getElem?_eq_some_iff.1 hx).1 (by omega)
theorem Inv.newB {Γ : Ctx} {w' : World} (hI : Inv Γ F μ hf w) (b : Bid) (hb : hf b = none) (B : Blk) (c : Array Value) (e : TypeId) (fz : Nat × Nat)
    (hsz : w'.heap.size = w.heap.size + 1) (hold : ∀ k, k < w.heap.size → w'.heap[k]? = w.heap[k]?) (hnew : w'.heap[w.heap.size]? = some (.cells c e fz)) (hfzz : ∀ o, o < c.size → ¬ (fz.1 ≤ o ∧ o < fz.2))
    (hos : w'.os = w.os) (ht : w'.tape = w.tape) (ho : w'.output = w.output)
    (hfz : B.frz = false) (hesz : 0 < B.esz) (hlen : ∀ e ∈ B.els, e.length = B.esz) (hcl : B.box = false → ∀ e ∈ B.els, ∀ c ∈ e, closed c = true) (hbox : B.box = true → B.els.length = 1)
    (hl : B.els.length * B.esz ≤ c.size)
    (hr : ∀ i j el p, B.els[i]? = some el → el[j]? = some p → ∃ x, c[i * B.esz + j]? = some x ∧ SRel F μ hf w p x)
    (hsp : B.box = false → ∀ (j : Nat) (x : Value), B.els.length * B.esz ≤ j → c[j]? = some x → ∃ p, closed p = true ∧ ∀ (F : Nat → Prop) (w : World), CRel F w p x)
    (hmk : B.box = false → B.esz ≠ 1 → ¬ (fz.1 ≤ c.size ∧ c.size < fz.2)) :
    Inv Γ F (updM μ b (some w.heap.size)) (updH hf b B) w' ∧ Keeps F μ hf w F (updM μ b (some w.heap.size)) (updH hf b B) w' := by
  refine hI.upd b B (some w.heap.size) F hos ht ho (by omega) (fun k hk _ => hold k hk) (fun k => by simp [hfz])
    (.inr (.inr ⟨_, rfl, ?_, ?_, hI.size, by omega, hfz⟩)) (fun B0 h0 => by rw [hb] at h0; cases h0) (fun B0 h0 => by rw [hb] at h0; cases h0) ?_
  · intro b'' B'' h'' hm
    obtain ⟨_, hc, _⟩ := (hI.blk b'' B'' h'').at hm
    have := (Array.getElem?_eq_some_iff.1 hc).1
    omega
  · intro hF
    have := hI.lt _ hF
    omega
  · intro hK
    refine ⟨⟨hesz, fun hbx k c' e' fz' hk hc' j x hj hx => ?_, fun hbx hz k c' e' fz' hk hc' => ?_⟩, hlen, fun h => ?_, fun h => .inl (hbox h), ?_⟩
    · simp only [updM, if_true] at hk
      cases hk
      rw [hnew] at hc'
      cases hc'
      exact hsp hbx j x hj hx
    · simp only [updM, if_true] at hk
      cases hk
      rw [hnew] at hc'
      cases hc'
      exact hmk hbx hz
    · rcases h with h | h
      · exact hcl h
      · rw [hfz] at h; cases h
    · simp only [updM, if_true]
      refine ⟨by simp [hfz], fun _ hF => ?_, .inl ⟨c, e, fz, hnew, hfzz, hl, fun i j el p h1 h2 => ?_⟩⟩
      · have := hI.lt _ hF
        omega
      · obtain ⟨x, hx, hS⟩ := hr i j el p h1 h2
        exact ⟨x, hx, hS.keeps hK⟩
theorem Inv.alloc {Γ : Ctx} {w1 : World} (hI : Inv Γ F μ hf w) (b : Bid) (hb : hf b = none) (B : Blk) (c : Array Value) (e : TypeId)
    (hh : w1.heap = w.heap) (hos : w1.os = w.os) (ht : w1.tape = w.tape) (ho : w1.output = w.output)
    (hfz : B.frz = false) (hesz : 0 < B.esz) (hlen : ∀ e ∈ B.els, e.length = B.esz) (hcl : B.box = false → ∀ e ∈ B.els, ∀ c ∈ e, closed c = true) (hbox : B.box = true → B.els.length = 1)
    (hl : B.els.length * B.esz ≤ c.size)
    (hr : ∀ i j el p, B.els[i]? = some el → el[j]? = some p → ∃ x, c[i * B.esz + j]? = some x ∧ SRel F μ hf w p x)
    (hsp : B.box = false → ∀ (j : Nat) (x : Value), B.els.length * B.esz ≤ j → c[j]? = some x → ∃ p, closed p = true ∧ ∀ (F : Nat → Prop) (w : World), CRel F w p x) :
    Inv Γ F (updM μ b (some w.heap.size)) (updH hf b B) (w1.alloc (.cells c e)) ∧ Keeps F μ hf w F (updM μ b (some w.heap.size)) (updH hf b B) (w1.alloc (.cells c e)) := by
  have hs : w1.heap.size = w.heap.size := by rw [hh]
  exact hI.newB b hb B c e (0, 0) (by simp [hs]) (fun k hk => by rw [Go.RowKit.Below.heap_alloc w1 _ k (by omega), hh])
    (by show (w1.heap.push _)[w.heap.size]? = _; rw [← hs]; simp) (by simp) hos ht ho hfz hesz hlen hcl hbox hl hr hsp (fun _ _ h => by simp at h)
theorem Inv.write {Γ : Ctx} (hI : Inv Γ F μ hf w) (b : Bid) (B B' : Blk) (hb : hf b = some B) (k : Nat) (hm : μ b = some k) (c c' : Array Value) (e : TypeId) (fz : Nat × Nat)
    (hc : w.heap[k]? = some (.cells c e fz)) (hfz : B.frz = false) (hfz' : B'.frz = false) (hbx : B'.box = B.box) (hes : B'.esz = B.esz) (hge : B.els.length ≤ B'.els.length) (hsz : c'.size = c.size)
    (hlen : ∀ e ∈ B'.els, e.length = B.esz) (hcl : B.box = false → ∀ e ∈ B'.els, ∀ c ∈ e, closed c = true) (hbox : B.box = true → B'.els.length = 1)
    (hl : B'.els.length * B.esz ≤ c'.size)
    (hr : ∀ i j el p, B'.els[i]? = some el → el[j]? = some p → ∃ x, c'[i * B.esz + j]? = some x ∧ SRel F μ hf w p x)
    (hsp : B.box = false → ∀ (j : Nat) (x : Value), B'.els.length * B.esz ≤ j → c'[j]? = some x → c[j]? = some x) :
    Inv Γ F (updM μ b (some k)) (updH hf b B') (w.setRow k c') ∧ Keeps F μ hf w F (updM μ b (some k)) (updH hf b B') (w.setRow k c') := by
  have hB := hI.blk b B hb
  obtain ⟨g1, g2, c0, e0, fz0, hc0, hfz0, hl0, hr0⟩ := hB.cellsOf hm hc
  rw [hc] at hc0
  cases hc0
  have hrow := setRow_heap w k c c' e fz hc
  refine hI.upd b B' (some k) F rfl rfl rfl (by simp) (fun k' hk' hne => setRow_other w k k' c' (fun e => hne B hb hfz (e ▸ hm))) (fun k => by simp [hfz'])
    (.inl ⟨B, hb, hm.symm⟩) (fun B0 h0 hf0 => ?_) (fun B0 h0 => ?_) ?_
  · rw [hb] at h0; cases h0; rw [hfz] at hf0; cases hf0
  · rw [hb] at h0
    cases h0
    refine ⟨hbx, hge, fun _ => ⟨hes, hm.symm, fun k2 hk2 => ?_⟩⟩
    rw [hm] at hk2
    cases hk2
    simp [xA6, hrow, hc, hsz]
  · intro hK
    refine ⟨⟨by rw [hes]; exact hB.1.1, fun hbx' k' c2 e2 fz2 hk' hc2 j x hj hx => ?_, fun hbx' hz k' c2 e2 fz2 hk' hc2 => ?_⟩, by rw [hes]; exact hlen, fun h => ?_, fun h => .inl (hbox (hbx ▸ h)), ?_⟩
    · simp only [updM, if_true] at hk'
      cases hk'
      rw [hrow] at hc2
      cases hc2
      rw [hbx] at hbx'
      rw [hes] at hj
      exact hB.1.2.1 hbx' k c e fz hm hc j x (Nat.le_trans (Nat.mul_le_mul_right _ hge) hj) (hsp hbx' j x hj hx)
    · simp only [updM, if_true] at hk'
      cases hk'
      rw [hrow] at hc2
      cases hc2
      rw [hbx] at hbx'
      rw [hes] at hz
      rw [hsz]
      exact hB.1.2.2 hbx' hz k c e fz hm hc
    · rcases h with h | h
      · exact hcl (hbx ▸ h)
      · rw [hfz'] at h; cases h
    · simp only [updM, if_true]
      refine ⟨by simp [hfz'], fun _ => g2 hfz, .inl ⟨c', e, fz, hrow, by rw [hsz]; exact hfz0, by rw [hes]; exact hl, fun i j el p h1 h2 => ?_⟩⟩
      obtain ⟨x, hx, hS⟩ := hr i j el p h1 h2
      exact ⟨x, by rw [hes]; exact hx, hS.keeps hK⟩
theorem xBX (P : Program) (g o : Nat) (t : TypeId) (fz : Nat × Nat) : ∀ (vs : List Value) (i : Nat) (cur : Array Value) (w : World), w.heap[g]? = some (.cells cur t fz) → (∀ o, o < cur.size → ¬ (fz.1 ≤ o ∧ o < fz.2)) →
    o + i + vs.length ≤ cur.size → (∀ v ∈ vs, v.oneCell' = true) →
    (storeCells ⟨g, o, none⟩ vs i).run P w = .ok () (w.setRow g (cur.toList.take (o + i) ++ vs ++ cur.toList.drop (o + i + vs.length)).toArray)
  | [], i, cur, w, hg, _, _, _ => by
    simp only [storeCells, List.append_nil, List.length_nil, Nat.add_zero, List.take_append_drop, Array.toArray_toList]
    rw [setRow_self w g cur t fz hg]
    rfl
  | v :: rest, i, cur, w, hg, hfz, hl, h1 => by
    have hi : o + i < cur.size := by simp at hl; omega
    have hadd : (⟨g, o, none⟩ : Addr).add i = ⟨g, o + i, none⟩ := by unfold Addr.add; split <;> simp_all
    have hcell : w.cell? ⟨g, o + i, none⟩ = some cur[o + i] := by simp [World.cell?, hg, hi]
    have hfro : w.frozen? ⟨g, o + i, none⟩ = false := by
      have := hfz (o + i) hi
      simp only [World.frozen?, hg]
      rw [Bool.and_eq_false_iff]
      simp only [decide_eq_false_iff_not]
      omega
    have hst : (store ((⟨g, o, none⟩ : Addr).add i) v).run P w = .ok () (w.setRow g (cur.setIfInBounds (o + i) v)) := by
      rw [hadd, run_store P w _ v _ (h1 v (by simp)), hcell]
      simp [hfro, setCell_eq_setRow w g (o + i) cur t fz v hg]
    have ih := xBX P g o t fz rest (i + 1) (cur.setIfInBounds (o + i) v) (w.setRow g (cur.setIfInBounds (o + i) v)) (setRow_heap w g cur _ t fz hg) (by simpa using hfz) (by simp at hl ⊢; omega) (fun x hx => h1 x (by simp [hx]))
    simp only [storeCells, Sem.run_bind, hst, Result.andThen_ok, ih, setRow_setRow]
    congr 3
    have e := list_seg_step cur.toList (o + i) v rest (by simp at hl ⊢; omega)
    simpa [Array.toList_setIfInBounds, Nat.add_assoc] using e
theorem xBs (k o n : Nat) : (⟨k, o, none⟩ : Addr).add n = ⟨k, o + n, none⟩ := by unfold Addr.add; split <;> simp_all
theorem xET (P : Program) (w : World) (k o n : Nat) (c : Array Value) (e : TypeId) (fz : Nat × Nat) (hc : w.heap[k]? = some (.cells c e fz)) (hn : o + n ≤ c.size) :
    (loadCells ⟨k, o, none⟩ n).run P w = .ok (c.extract o (o + n)) w := by
  rw [run_loadCells (P := P) w ⟨k, o, none⟩ n (fun j => c.getD (o + j) undef) (fun j hj => by rw [xBs, cell_of_row w k (o + j) c e fz hc]; simp [Array.getD, show o + j < c.size by omega])]
  congr 1
  apply Array.ext
  · simp; omega
  · intro i h1 h2
    simp at h1
    simp [Array.getD, show o + i < c.size by omega]
end
end Go.V
set_option linter.unusedVariables false
set_option linter.unusedSimpArgs false
namespace Go.V
def Sim (P : Program) (Γ : Ctx) (o : Oper) (a : Act) (F : Nat → Prop) (μ : Bid → Option Nat) (hf : HF) (w : World) (r : Res) : Prop :=
  ∃ rv w' F' μ', ((execOp a.eval o).run P w = .ok (.value rv) w' ∨ ((execOp a.eval o).run P w = .ok .skip w' ∧ rv = undef)) ∧
    Inv Γ F' μ' (xAj hf r.ws) w' ∧ Keeps F μ hf w F' μ' (xAj hf r.ws) w' ∧ VRel F' μ' (xAj hf r.ws) w' r.v rv
section
variable {P : Program} {Γ : Ctx} {o : Oper} {a : Act} {F : Nat → Prop} {μ : Bid → Option Nat} {hf : HF} {w : World} {r : Res} {tf : TF} {lvl site : Nat}
theorem Sim.pure (hI : Inv Γ F μ hf w) {rv : Value} (hrun : (execOp a.eval o).run P w = .ok (.value rv) w) (hws : r.ws = []) (hv : VRel F μ hf w r.v rv) : Sim P Γ o a F μ hf w r :=
  ⟨rv, w, F, μ, .inl hrun, by rw [hws]; exact hI, by rw [hws]; exact Keeps.refl, by rw [hws]; exact hv⟩
theorem bind_some {α β : Type} {x : Option α} {f : α → Option β} {b : β} (h : x.bind f = some b) : ∃ y, x = some y ∧ f y = some b := by
  cases x with
  | none => cases h
  | some y => exact ⟨y, rfl, h⟩
theorem map_some {α β : Type} {x : Option α} {f : α → β} {b : β} (h : x.map f = some b) : ∃ y, x = some y ∧ f y = b := by
  cases x with
  | none => cases h
  | some y => exact ⟨y, rfl, by simpa using h⟩
theorem xAV {v : PV} {r : Res} (h : retV v = some r) : r.ws = [] ∧ r.v = v ∧ r.rd = [] := by cases h; exact ⟨rfl, rfl, rfl⟩
theorem xNI (hI : Inv Γ F μ hf w) (hT : TRel F μ hf w tf a) {x : Operand} {vx : VX} (ho : o.op = .move x ∨ o.op = .assign x) (hx : cx x = some vx) (hr : vop lvl site tf hf (.copy vx) = some r) : Sim P Γ o a F μ hf w r := by
  obtain ⟨p, hp, hr⟩ := bind_some hr
  obtain ⟨h1, h2, _⟩ := xAV hr
  refine Sim.pure hI (rv := a.eval x) ?_ h1 (h2 ▸ xAO hI hT hx hp)
  rcases ho with ho | ho <;> simp [execOp, ho]
theorem xKC (hI : Inv Γ F μ hf w) {rv : Value} {p : PV} (hrun : (execOp a.eval o).run P w = .ok (.value rv) w) (hv : VRel F μ hf w p rv) (hr : vop lvl site tf hf (.copy (.c p)) = some r) : Sim P Γ o a F μ hf w r := by
  have hr : retV p = some r := hr
  obtain ⟨h1, h2, _⟩ := xAV hr
  exact Sim.pure hI hrun h1 (h2 ▸ hv)
theorem xSJ (hI : Inv Γ F μ hf w) (hT : TRel F μ hf w tf a) {c x y : Operand} {vc vx vy : VX} (ho : o.op = .pick c x y) (hc : cx c = some vc) (hx : cx x = some vx) (hy : cx y = some vy)
    (hr : vop lvl site tf hf (.pick vc vx vy) = some r) : Sim P Γ o a F μ hf w r := by
  obtain ⟨p, hp, hr⟩ := bind_some hr
  have hc := xAO hI hT hc hp
  split at hr
  · obtain ⟨q, hq, hr⟩ := bind_some hr
    obtain ⟨h1, h2, _⟩ := xAV hr
    refine Sim.pure hI (rv := a.eval x) ?_ h1 (h2 ▸ xAO hI hT hx hq)
    simp [execOp, ho, xCW hc, asBool]
  · obtain ⟨q, hq, hr⟩ := bind_some hr
    obtain ⟨h1, h2, _⟩ := xAV hr
    refine Sim.pure hI (rv := a.eval y) ?_ h1 (h2 ▸ xAO hI hT hy hq)
    simp [execOp, ho, xCW hc, asBool]
  · cases hr
theorem xHx {t : TypeId} {g : Bool} (h : xC1 P t = some g) : (isAgg t).run P w = .ok g w := by
  obtain ⟨d, hd, rfl⟩ := map_some h
  unfold isAgg
  rw [Sem.run_bind, run_underlying hd]
  cases d <;> rfl
theorem xAU {t : TypeId} {n : Nat} (h : xA5 P t = some n) : (sizeOf t).run P w = .ok n w := by
  obtain ⟨i, hi, rfl⟩ := map_some h
  simp [sizeOf, typeInfo, hi]
theorem xFM {t : TypeId} {g : Bool} {n k o : Nat} (hg : xC1 P t = some g) (hn : xA5 P t = some n) (f : Nat → Value) (hf : ∀ j, j < (if g then n else 1) → w.cell? ⟨k, o + j, none⟩ = some (f j)) :
    (loadVar t ⟨k, o, none⟩).run P w = .ok (if g then .agg ((List.range n).map f).toArray else f 0) w := by
  unfold loadVar
  rw [Sem.run_bind, xHx hg]
  cases g with
  | true =>
    simp only [if_true] at hf
    simp only [Result.andThen_ok, if_true, Sem.run_bind, xAU hn]
    rw [run_loadCells (P := P) w ⟨k, o, none⟩ n f (fun j hj => by rw [xBs]; exact hf j hj)]
    rfl
  | false =>
    have := hf 0 (by simp)
    simp only [Nat.add_zero] at this
    simp [this]
theorem xSM (hI : Inv Γ F μ hf w) (hT : TRel F μ hf w tf a) {x : Operand} {vx : VX} {t : TypeId} {g : Bool} {n : Nat} (ho : o.op = .load t x) (hg : xC1 P t = some g) (hn : xA5 P t = some n) (hx : cx x = some vx)
    (hr : vop lvl site tf hf (.load g n vx) = some r) : Sim P Γ o a F μ hf w r := by
  obtain ⟨p, hp, hr⟩ := bind_some hr
  have hv := xAO hI hT hx hp
  have fin : ∀ (k off : Nat) (e : List PV) (j : Nat) (f : Nat → Value), a.eval x = .pointer (some ⟨k, off + j, none⟩) →
      (∀ j' q, e[j']? = some q → w.cell? ⟨k, off + j', none⟩ = some (f j') ∧ SRel F μ hf w q (f j')) →
      (if g then (j + n ≤ e.length ∧ r.v = .agg ((e.drop j).take n)) else (e[j]? = some r.v)) → r.ws = [] → Sim P Γ o a F μ hf w r := by
    intro k off e j f ha hcell hres hws
    have hrun : ∀ f' : Nat → Value, (∀ j', j' < (if g then n else 1) → w.cell? ⟨k, off + j + j', none⟩ = some (f' j')) → (execOp a.eval o).run P w = .ok (.value (if g then .agg ((List.range n).map f').toArray else f' 0)) w := by
      intro f' hf'
      have := xFM (P := P) (w := w) (k := k) (o := off + j) hg hn f' hf'
      simp [execOp, ho, ha, Instr.loadAt, Instr.sureAddr, this]
    cases g with
    | true =>
      simp only [if_true] at hres hrun
      obtain ⟨hle, hrv⟩ := hres
      refine Sim.pure hI (hrun (fun j' => f (j + j')) (fun j' hj' => ?_)) hws ?_
      · have := (hcell (j + j') (e[j + j']'(by omega)) (List.getElem?_eq_getElem (by omega))).1
        rw [Nat.add_assoc]; exact this
      · rw [hrv]
        refine ⟨_, rfl, by simp; omega, fun i q y h1 h2 => ?_⟩
        rw [List.getElem?_take, List.getElem?_drop] at h1
        split at h1
        · rename_i hlt
          have hy : y = f (j + i) := by simp [hlt] at h2; exact h2.symm
          rw [hy]
          exact (hcell _ _ h1).2
        · cases h1
    | false =>
      simp only [Bool.false_eq_true, if_false] at hres hrun
      obtain ⟨h1, h2⟩ := hcell j _ hres
      refine Sim.pure hI (hrun (fun _ => f j) (fun j' hj' => ?_)) hws (VRel.of_S' h2)
      have : j' = 0 := by omega
      subst this
      exact h1
  split at hr
  · rename_i b hw i j
    obtain ⟨B, hb, hr⟩ := bind_some hr
    obtain ⟨e, he, hr⟩ := bind_some hr
    split at hr
    · cases hr
    · rename_i hcur
      simp only [ne_eq, Decidable.not_not] at hcur
      obtain ⟨_, B0, hb0, hle0, hptr⟩ := xEN hv
      rw [hb] at hb0
      cases hb0
      have hBk := hI.blk b B hb
      have hB := hBk.2.2.2.2
      cases hm : μ b with
      | none =>
        rw [hm] at hB
        rw [hB.1] at he
        simp at he
      | some k =>
        obtain ⟨_, _, c, e0, fz, hc, _, _, hrel⟩ := hBk.cells hm (hBk.one hcur hle0)
        have ha := hptr hcur k hm
        refine fin k (i * B.esz) e j (fun j' => (c[i * B.esz + j']?).getD undef) ha (fun j' q hq => ?_) ?_ ?_
        · obtain ⟨y, hy, hs⟩ := hrel i j' e q he hq
          simp only [hy, Option.getD_some]
          exact ⟨by rw [cell_of_row w k _ c e0 fz hc]; exact hy, hs⟩
        · cases g with
          | true =>
            simp only [if_true] at hr ⊢
            split at hr
            · cases hr; exact ⟨by assumption, rfl⟩
            · cases hr
          | false =>
            simp only [Bool.false_eq_true, if_false] at hr ⊢
            obtain ⟨v, hv', rfl⟩ := map_some hr
            exact hv'
        · cases g with
          | true =>
            simp only [if_true] at hr
            split at hr <;> cases hr; rfl
          | false =>
            simp only [Bool.false_eq_true, if_false] at hr
            obtain ⟨v, hv', rfl⟩ := map_some hr
            rfl
  · rename_i l i j
    obtain ⟨e, he, hr⟩ := bind_some hr
    generalize hav : a.eval x = av at hv
    have hC := xFB hv
    cases hC with
    | sptr _ _ _ k off esz gg hF hesz hlen hc hrr =>
      refine fin k (off + i * esz) e j (fun j' => gg i j') hav (fun j' q hq => ⟨hc i j' e q he hq, ?_⟩) ?_ ?_
      · have hC := hrr i j' e q he hq
        exact (SRel.of_closed hC.closed).2 hC
      · cases g with
        | true =>
          simp only [if_true] at hr ⊢
          split at hr
          · cases hr; exact ⟨by assumption, rfl⟩
          · cases hr
        | false =>
          simp only [Bool.false_eq_true, if_false] at hr ⊢
          obtain ⟨v, hv', hr⟩ := bind_some hr
          cases hr
          exact hv'
      · cases g with
        | true =>
          simp only [if_true] at hr
          split at hr <;> cases hr; rfl
        | false =>
          simp only [Bool.false_eq_true, if_false] at hr
          obtain ⟨v, hv', hr⟩ := bind_some hr
          cases hr
          rfl
  · cases hr
end
end Go.V
set_option linter.unusedVariables false
set_option linter.unusedSimpArgs false
namespace Go.V
section
variable {P : Program} {Γ : Ctx} {o : Oper} {a : Act} {F : Nat → Prop} {μ : Bid → Option Nat} {hf : HF} {w : World} {r : Res} {tf : TF} {lvl site : Nat}
theorem VRel.bool (b : Bool) : VRel F μ hf w (.bool b) (.bool b) := CRel.bool b
theorem VRel.int (k : IntKind) (n : Int) : VRel F μ hf w (.int k n) (.int k n) := CRel.int k n
theorem VRel.str (s : List UInt8) : VRel F μ hf w (.str s) (.string ⟨s.toArray⟩) := CRel.str s
theorem xDD (op : BinOp) (t : TypeId) (x y : Operand) (k k' : IntKind) (m n : Int) : (eqGuard op t x y (.int k m) (.int k' n)).run P w = .ok () w := by
  cases op <;> simp [eqGuard]
theorem xHy (op : BinOp) (t : TypeId) (x y : Operand) (m n : ByteArray) : (eqGuard op t x y (.string m) (.string n)).run P w = .ok () w := by
  cases op <;> simp [eqGuard]
theorem xHK (op : BinOp) (t : TypeId) (x y : Operand) (m n : Bool) : (eqGuard op t x y (.bool m) (.bool n)).run P w = .ok () w := by
  cases op <;> simp [eqGuard]
theorem xOf {op : BinOp} {t : TypeId} {k : IntKind} {m n : Int} {v : PV} (h : xEx op k m n = some v) : ∃ rv, (Go.binOp op t (.int k m) (.int k n)).run P w = .ok rv w ∧ VRel F μ hf w v rv := by
  cases op <;> simp only [xEx] at h <;> (try (cases h; done))
  case add => cases h; exact ⟨_, by simp [Go.binOp, Op.intArith] <;> rfl, VRel.int _ _⟩
  case sub => cases h; exact ⟨_, by simp [Go.binOp, Op.intArith] <;> rfl, VRel.int _ _⟩
  case mul => cases h; exact ⟨_, by simp [Go.binOp, Op.intArith] <;> rfl, VRel.int _ _⟩
  case quo =>
    split at h <;> cases h
    rename_i h0
    exact ⟨_, by simp [Go.binOp, Op.intDiv, h0] <;> rfl, VRel.int _ _⟩
  case rem =>
    split at h <;> cases h
    rename_i h0
    exact ⟨_, by simp [Go.binOp, Op.intDiv, h0] <;> rfl, VRel.int _ _⟩
  case and => cases h; exact ⟨_, by simp [Go.binOp, Op.intBits] <;> rfl, VRel.int _ _⟩
  case or => cases h; exact ⟨_, by simp [Go.binOp, Op.intBits] <;> rfl, VRel.int _ _⟩
  case xor => cases h; exact ⟨_, by simp [Go.binOp, Op.intBits] <;> rfl, VRel.int _ _⟩
  case andNot => cases h; exact ⟨_, by simp [Go.binOp, Op.intBits] <;> rfl, VRel.int _ _⟩
  case eql => cases h; exact ⟨_, by simp only [Go.binOp, ne_eq, not_true_eq_false, if_false, Op.intCmp] <;> rfl, VRel.bool _⟩
  case neq => cases h; exact ⟨_, by simp only [Go.binOp, ne_eq, not_true_eq_false, if_false, Op.intCmp] <;> rfl, VRel.bool _⟩
  case lss => cases h; exact ⟨_, by simp only [Go.binOp, ne_eq, not_true_eq_false, if_false, Op.intCmp] <;> rfl, VRel.bool _⟩
  case leq => cases h; exact ⟨_, by simp only [Go.binOp, ne_eq, not_true_eq_false, if_false, Op.intCmp] <;> rfl, VRel.bool _⟩
  case gtr => cases h; exact ⟨_, by simp only [Go.binOp, ne_eq, not_true_eq_false, if_false, Op.intCmp] <;> rfl, VRel.bool _⟩
  case geq => cases h; exact ⟨_, by simp only [Go.binOp, ne_eq, not_true_eq_false, if_false, Op.intCmp] <;> rfl, VRel.bool _⟩
theorem xOe {op : BinOp} {t : TypeId} {x y : List UInt8} {v : PV} (h : xOJ op x y = some v) : ∃ rv, (Go.binOp op t (.string ⟨x.toArray⟩) (.string ⟨y.toArray⟩)).run P w = .ok rv w ∧ VRel F μ hf w v rv := by
  have hx : (⟨x.toArray⟩ : ByteArray).size = x.length := by simp [ByteArray.size]
  have hy : (⟨y.toArray⟩ : ByteArray).size = y.length := by simp [ByteArray.size]
  cases op <;> simp only [xOJ] at h <;> (try (cases h; done))
  case add =>
    split at h <;> cases h
    rename_i hle
    refine ⟨.string ⟨(x ++ y).toArray⟩, ?_, VRel.str _⟩
    have hn : ¬ ((x.length : Int) + (y.length : Int) > IntKind.i64.max) := by
      have : IntKind.i64.max = 9223372036854775807 := by decide
      omega
    have he : (⟨x.toArray⟩ : ByteArray) ++ ⟨y.toArray⟩ = ⟨(x ++ y).toArray⟩ := by
      apply ByteArray.ext
      simp [ByteArray.data_append]
    have hn' : ¬ ((((⟨x.toArray⟩ : ByteArray).size + (⟨y.toArray⟩ : ByteArray).size : Nat) : Int) > IntKind.i64.max) := by rw [hx, hy]; omega
    simp only [Go.binOp, Op.stringOp, if_neg hn', he]
    rfl
  all_goals
    cases h
    exact ⟨_, by simp only [Go.binOp, Op.stringOp, ByteArray.toList_mk]; rfl, VRel.bool _⟩
theorem xPq (hI : Inv Γ F μ hf w) (hT : TRel F μ hf w tf a) {op : BinOp} {t u : TypeId} {x y : Operand} {vx vy : VX} (ho : o.op = .binOp op t x y u) (hx : cx x = some vx) (hy : cx y = some vy)
    (hr : vop lvl site tf hf (.bin op vx vy) = some r) : Sim P Γ o a F μ hf w r := by
  obtain ⟨p, hp, hr⟩ := bind_some hr
  obtain ⟨q, hq, hr⟩ := bind_some hr
  obtain ⟨v, hv, hr⟩ := bind_some hr
  obtain ⟨h1, h2, _⟩ := xAV hr
  have hvx := xAO hI hT hx hp
  have hvy := xAO hI hT hy hq
  have key : ∃ rv, ((do eqGuard op t x y (a.eval x) (a.eval y); Go.binOp op t (a.eval x) (a.eval y)) : Sem Value).run P w = .ok rv w ∧ VRel F μ hf w v rv := by
    unfold bin at hv
    split at hv
    · split at hv <;> cases hv
      rename_i k m k' n h0
      refine ⟨_, ?_, VRel.int _ _⟩
      rw [xBO hvx, xBO hvy]
      simp [xDD, Go.binOp, Op.shift, h0] <;> rfl
    · split at hv <;> cases hv
      rename_i k m k' n h0
      refine ⟨_, ?_, VRel.int _ _⟩
      rw [xBO hvx, xBO hvy]
      simp [xDD, Go.binOp, Op.shift, h0] <;> rfl
    · split at hv
      · rename_i hk
        subst hk
        rw [xBO hvx, xBO hvy]
        obtain ⟨rv, h1, h2⟩ := xOf (P := P) (w := w) (F := F) (μ := μ) (hf := hf) (t := t) hv
        exact ⟨rv, by simp [xDD, h1], h2⟩
      · cases hv
    · rw [xCG hvx, xCG hvy]
      obtain ⟨rv, h1, h2⟩ := xOe (P := P) (w := w) (F := F) (μ := μ) (hf := hf) (t := t) hv
      exact ⟨rv, by simp [xHy, h1], h2⟩
    · cases hv
  obtain ⟨rv, hrun, hrel⟩ := key
  refine Sim.pure hI (rv := rv) ?_ h1 (h2 ▸ hrel)
  simp only [execOp, ho, Sem.run_bind] at hrun ⊢
  rw [hrun]
  rfl
theorem xTy (hI : Inv Γ F μ hf w) (hT : TRel F μ hf w tf a) {op : BinOp} {t : TypeId} {x : Operand} {vx : VX} {k : IntKind} (uop : UnOp) (m : Int) (hop : op = .sub ∧ uop = .neg ∧ m = 0 ∨ op = .xor ∧ uop = .xor ∧ m = (if k.signed then -1 else k.max)) (ho : o.op = .unOp uop t x) (hx : cx x = some vx)
    (hr : vop lvl site tf hf (.bin op (.c (.int k m)) vx) = some r) : Sim P Γ o a F μ hf w r := by
  have hr : (ev tf vx).bind (fun b => (bin op (.int k m) b).bind retV) = some r := hr
  obtain ⟨q, hq, hr⟩ := bind_some hr
  obtain ⟨v, hv, hr⟩ := bind_some hr
  obtain ⟨h1, h2, _⟩ := xAV hr
  have hvx := xAO hI hT hx hq
  rcases hop with ⟨rfl, rfl, rfl⟩ | ⟨rfl, rfl, rfl⟩
  all_goals
    clear hr
    unfold bin at hv
    split at hv <;> (try (cases hv; done))
    · rename_i e1 e2
      cases e1
    · rename_i e1 e2
      cases e1
    · rename_i k0 m0 k1 n e1 e2 e3
      split at hv <;> cases hv
      rename_i hk
      cases e1
      subst hk
      rw [Sim]
      exact Sim.pure hI (by rw [execOp]; simp only [ho, xBO hvx, Op.unary, Op.intArith, Op.intBits]; rfl) h1 (h2 ▸ VRel.int _ _)
theorem xU6 {t : TypeId} {m n : Bool} (ht : P.underlying t = some .bool) : (Op.equal t (.bool m) (.bool n)).run P w = .ok (m == n) w := by
  show (Op.equalIn (9999 + 1) t (.bool m) (.bool n)).run P w = _
  exact run_equalIn_bool' w 9999 t m n ht
theorem xPn (hI : Inv Γ F μ hf w) (hT : TRel F μ hf w tf a) {op : BinOp} {neg : Bool} {t u : TypeId} {x y : Operand} {vx vy : VX} (ho : o.op = .binOp op t x y u) (hop : op = (if neg then .neq else .eql)) (ht : P.underlying t = some .bool) (hx : cx x = some vx) (hy : cx y = some vy)
    (hr : vop lvl site tf hf (.eqb neg vx vy) = some r) : Sim P Γ o a F μ hf w r := by
  obtain ⟨p, hp, hr1⟩ := bind_some hr
  clear hr
  obtain ⟨q, hq, hr⟩ := bind_some hr1
  clear hr1
  have hvx := xAO hI hT hx hp
  have hvy := xAO hI hT hy hq
  cases p <;> (try (cases hr; done))
  rename_i b1
  cases q <;> (try (cases hr; done))
  rename_i b2
  have hr : retV (.bool (if neg then !(b1 == b2) else b1 == b2)) = some r := hr
  obtain ⟨h1, h2, _⟩ := xAV hr
  subst hop
  refine Sim.pure hI (rv := .bool (if neg then !(b1 == b2) else b1 == b2)) ?_ h1 (h2 ▸ VRel.bool _)
  cases neg
  all_goals
    simp only [Bool.false_eq_true, if_false, if_true] at ho ⊢
    simp only [execOp, ho, xCW hvx, xCW hvy, Sem.run_bind, xHK, Result.andThen_ok, Go.binOp, xU6 ht, Sem.run_pure]
theorem xSK (hI : Inv Γ F μ hf w) (hT : TRel F μ hf w tf a) {x : Operand} {vx : VX} (ho : o.op = .nilCheck x) (hx : cx x = some vx)
    (hr : vop lvl site tf hf (.nilc vx) = some r) : Sim P Γ o a F μ hf w r := by
  obtain ⟨p, hp, hr⟩ := bind_some hr
  have hv := xAO hI hT hx hp
  split at hr
  · obtain ⟨h1, h2, _⟩ := xAV hr
    obtain ⟨⟨ad, he⟩, _⟩ := xEN hv
    exact Sim.pure hI (rv := a.eval x) (by simp [execOp, ho, he]) h1 (h2 ▸ hv)
  · obtain ⟨h1, h2, _⟩ := xAV hr
    have he : ∃ ad, a.eval x = .pointer (some ad) := by
      generalize a.eval x = av at hv
      have hv := xFB hv
      cases hv
      exact ⟨_, rfl⟩
    obtain ⟨ad, he⟩ := he
    exact Sim.pure hI (rv := a.eval x) (by simp [execOp, ho, he]) h1 (h2 ▸ hv)
  · obtain ⟨h1, h2, _⟩ := xAV hr
    obtain ⟨rc, he, _⟩ := xQ6 hv
    exact Sim.pure hI (rv := a.eval x) (by simp [execOp, ho, he]) h1 (h2 ▸ hv)
  · cases hr
theorem xUw (hI : Inv Γ F μ hf w) (hT : TRel F μ hf w tf a) {t : TypeId} {x : Operand} {vx : VX} (ho : o.op = .unOp .not t x) (hx : cx x = some vx)
    (hr : vop lvl site tf hf (.not vx) = some r) : Sim P Γ o a F μ hf w r := by
  obtain ⟨p, hp, hr⟩ := bind_some hr
  have hv := xAO hI hT hx hp
  split at hr
  · obtain ⟨h1, h2, _⟩ := xAV hr
    exact Sim.pure hI (rv := _) (by simp [execOp, ho, xCW hv, Op.unary] <;> rfl) h1 (h2 ▸ VRel.bool _)
  · cases hr
theorem xSP (hI : Inv Γ F μ hf w) (hT : TRel F μ hf w tf a) {s d : TypeId} {x : Operand} {vx : VX} {k k' : IntKind} (ho : o.op = .convert s d x) (hs : P.underlying s = some (.int k')) (hd : P.underlying d = some (.int k)) (hx : cx x = some vx)
    (hr : vop lvl site tf hf (.conv k vx) = some r) : Sim P Γ o a F μ hf w r := by
  obtain ⟨p, hp, hr⟩ := bind_some hr
  have hv := xAO hI hT hx hp
  split at hr
  · obtain ⟨h1, h2, _⟩ := xAV hr
    exact Sim.pure hI (rv := _) (by simp [execOp, ho, xBO hv, Go.convert, run_underlying hs, run_underlying hd, Conv.intToInt] <;> rfl) h1 (h2 ▸ VRel.int _ _)
  · cases hr
theorem xSO (hI : Inv Γ F μ hf w) (hT : TRel F μ hf w tf a) {s d : TypeId} {x : Operand} {vx : VX} (ho : o.op = .convert s d x) (hs : P.underlying s = some .string) (hd : P.underlying d = some .string) (hx : cx x = some vx)
    (hr : vop lvl site tf hf (.cstr vx) = some r) : Sim P Γ o a F μ hf w r := by
  obtain ⟨p, hp, hr⟩ := bind_some hr
  have hv := xAO hI hT hx hp
  split at hr
  · obtain ⟨h1, h2, _⟩ := xAV hr
    exact Sim.pure hI (rv := a.eval x) (by simp [execOp, ho, xCG hv, Go.convert, run_underlying hs, run_underlying hd]) h1 (h2 ▸ hv)
  · cases hr
theorem xPk (hI : Inv Γ F μ hf w) (hT : TRel F μ hf w tf a) {s : TypeId} {x : Operand} {i : Nat} {vx : VX} {fs : Array Field} {f : Field} {n : Nat} (ho : o.op = .fieldAddr s x i) (hs : P.underlying s = some (.struct fs)) (hfl : fs[i]? = some f) (hn : xA5 P f.type = some n) (hn0 : n ≠ 0) (hx : cx x = some vx)
    (hr : vop lvl site tf hf (.faddr f.offset vx) = some r) : Sim P Γ o a F μ hf w r := by
  obtain ⟨p, hp, hr⟩ := bind_some hr
  have hv := xAO hI hT hx hp
  have hrun : ∀ ad, a.eval x = .pointer (some ad) → (execOp a.eval o).run P w = .ok (.value (.pointer (some (ad.add f.offset)))) w := by
    intro ad he
    simp [execOp, ho, he, Instr.fieldAt, run_underlying hs, hfl, Instr.sureAddr, fieldPlace, xAU hn, hn0]
  split at hr
  · rename_i b hw i j
    obtain ⟨h1, h2, _⟩ := xAV hr
    obtain ⟨⟨ad, he⟩, B, hb, hle, hcur⟩ := xEN hv
    refine Sim.pure hI (hrun ad he) h1 ?_
    rw [h2]
    refine ⟨⟨_, rfl⟩, B, hb, hle, fun hc k hk => ?_⟩
    have := hcur hc k hk
    rw [he] at this
    cases this
    rw [xBs, Nat.add_assoc]
  · rename_i l i j
    obtain ⟨h1, h2, _⟩ := xAV hr
    generalize hav : a.eval x = av at hv
    have hC := xFB hv
    cases hC with
    | sptr _ _ _ k off esz g hF hesz hlen hc hrr =>
      refine Sim.pure hI (hrun _ hav) h1 ?_
      rw [h2, xBs, Nat.add_assoc]
      exact CRel.sptr l i (j + f.offset) k off esz g hF hesz hlen hc hrr
  · cases hr
theorem xHR {t : TypeId} {g : Bool} {n off : Nat} {cs : Array Value} (hg : xC1 P t = some g) (hn : xA5 P t = some n) : (part t cs off).run P w =
    if g then .ok (.agg (cs.extract off (off + n))) w else match cs[off]? with | some v => .ok v w | none => .halt (.stuck "part: no such cell") w := by
  unfold part
  rw [Sem.run_bind, xHx hg]
  cases g with
  | true => simp [xAU hn]
  | false => cases cs[off]? <;> simp
theorem xNX {cs : List PV} {vs : Array Value} {off n : Nat} (hs : vs.size = cs.length) (hrel : ∀ (i : Nat) (q : PV) (x : Value), cs[i]? = some q → vs[i]? = some x → SRel F μ hf w q x) (hle : off + n ≤ cs.length) :
    VRel F μ hf w (.agg ((cs.drop off).take n)) (.agg (vs.extract off (off + n))) := by
  refine ⟨_, rfl, by simp; omega, fun i q x h1 h2 => ?_⟩
  rw [List.getElem?_take, List.getElem?_drop] at h1
  split at h1
  · rw [Array.getElem?_extract] at h2
    split at h2
    · exact hrel _ _ _ h1 h2
    · cases h2
  · cases h1
theorem xPj (hI : Inv Γ F μ hf w) (hT : TRel F μ hf w tf a) {s : TypeId} {x : Operand} {i : Nat} {vx : VX} {fs : Array Field} {f : Field} {n : Nat} {g : Bool} (ho : o.op = .field s x i) (hs : P.underlying s = some (.struct fs)) (hfl : fs[i]? = some f) (hn : xA5 P f.type = some n) (hg : xC1 P f.type = some g) (hx : cx x = some vx)
    (hr : vop lvl site tf hf (.field g f.offset n vx) = some r) : Sim P Γ o a F μ hf w r := by
  obtain ⟨p, hp, hr⟩ := bind_some hr
  have hv := xAO hI hT hx hp
  split at hr
  · rename_i cs
    obtain ⟨vs, he, hsz, hrel⟩ := xFi hv
    have hrun := xHR (P := P) (w := w) (cs := vs) (off := f.offset) hg hn
    cases g with
    | true =>
      simp only [if_true] at hr hrun
      split at hr
      · obtain ⟨h1, h2, _⟩ := xAV hr
        refine Sim.pure hI (by simp [execOp, ho, he, Instr.field, run_underlying hs, hfl, asAgg, hrun] <;> rfl) h1 ?_
        rw [h2]
        exact xNX hsz hrel (by assumption)
      · cases hr
    | false =>
      simp only [Bool.false_eq_true, if_false] at hr hrun
      obtain ⟨q, hq, hr⟩ := bind_some hr
      obtain ⟨h1, h2, _⟩ := xAV hr
      have hlt : f.offset < cs.length := (List.getElem?_eq_some_iff.1 hq).1
      have hy : vs[f.offset]? = some (vs[f.offset]'(by omega)) := Array.getElem?_eq_getElem (by omega)
      rw [hy] at hrun
      refine Sim.pure hI (by simp only [execOp, ho, he, Instr.field, Sem.run_bind, run_underlying hs, Result.andThen_ok, hfl, asAgg, Sem.run_pure, hrun] <;> rfl) h1 ?_
      rw [h2]
      exact VRel.of_S' (hrel _ _ _ hq hy)
  · cases hr
theorem xOY (hI : Inv Γ F μ hf w) (hT : TRel F μ hf w tf a) {t e : TypeId} {x y : Operand} {vx vy : VX} {m n : Nat} {g : Bool} (ho : o.op = .index t x y) (ht : P.underlying t = some (.array m e)) (hn : xA5 P e = some n) (hg : xC1 P e = some g) (hx : cx x = some vx) (hy : cx y = some vy)
    (hr : vop lvl site tf hf (.indexA g m n vx vy) = some r) : Sim P Γ o a F μ hf w r := by
  obtain ⟨p, hp, hr⟩ := bind_some hr
  obtain ⟨q, hq, hr⟩ := bind_some hr
  have hv := xAO hI hT hx hp
  have hvy := xAO hI hT hy hq
  split at hr
  · rename_i kk k
    split at hr
    · rename_i cs _
      split at hr
      · rename_i hb
        obtain ⟨vs, he, hsz, hrel⟩ := xFi hv
        have hrun := xHR (P := P) (w := w) (cs := vs) (off := k.toNat * n) hg hn
        cases g with
        | true =>
          simp only [if_true] at hr hrun
          split at hr
          · obtain ⟨h1, h2, _⟩ := xAV hr
            refine Sim.pure hI (by simp [execOp, ho, he, xBO hvy, Instr.index, run_underlying ht, asIntOf, hb, xAU hn, hrun] <;> rfl) h1 ?_
            rw [h2]
            exact xNX hsz hrel (by assumption)
          · cases hr
        | false =>
          simp only [Bool.false_eq_true, if_false] at hr hrun
          obtain ⟨z, hz, hr⟩ := bind_some hr
          obtain ⟨h1, h2, _⟩ := xAV hr
          have hlt : k.toNat * n < cs.length := (List.getElem?_eq_some_iff.1 hz).1
          have hy : vs[k.toNat * n]? = some (vs[k.toNat * n]'(by omega)) := Array.getElem?_eq_getElem (by omega)
          rw [hy] at hrun
          refine Sim.pure hI (by simp only [execOp, ho, he, xBO hvy, Instr.index, Sem.run_bind, asIntOf, Sem.run_pure, run_underlying ht, Result.andThen_ok, hb, and_self, if_true, xAU hn, hrun] <;> rfl) h1 ?_
          rw [h2]
          exact VRel.of_S' (hrel _ _ _ hz hy)
      · cases hr
    · cases hr
  · cases hr
theorem xOX (hI : Inv Γ F μ hf w) (hT : TRel F μ hf w tf a) {t : TypeId} {x y : Operand} {vx vy : VX} (ho : o.op = .index t x y) (ht : P.underlying t = some .string) (hx : cx x = some vx) (hy : cx y = some vy)
    (hr : vop lvl site tf hf (.indexS vx vy) = some r) : Sim P Γ o a F μ hf w r := by
  obtain ⟨p, hp, hr⟩ := bind_some hr
  obtain ⟨q, hq, hr⟩ := bind_some hr
  have hv := xAO hI hT hx hp
  have hvy := xAO hI hT hy hq
  split at hr
  · rename_i kk k
    split at hr
    · rename_i s _
      split at hr
      · rename_i h0
        obtain ⟨c, hc, hr⟩ := bind_some hr
        obtain ⟨h1, h2, _⟩ := xAV hr
        have hlt : k.toNat < s.length := (List.getElem?_eq_some_iff.1 hc).1
        have hcv : s[k.toNat] = c := (List.getElem?_eq_some_iff.1 hc).2
        have hsz : (⟨s.toArray⟩ : ByteArray).size = s.length := by simp [ByteArray.size]
        refine Sim.pure hI (rv := .int .u8 c.toNat) ?_ h1 (h2 ▸ VRel.int _ _)
        have hrun := run_index_string (P := P) w t ⟨s.toArray⟩ kk k ht
        rw [dif_pos ⟨h0, by omega⟩] at hrun
        have hb : (⟨s.toArray⟩ : ByteArray)[k.toNat]'(by omega) = c := by rw [← hcv]; rfl
        simp only [hb] at hrun
        simp [execOp, ho, xBO hvy, xCG hv, hrun]
      · cases hr
    · cases hr
  · cases hr
theorem xMU (hI : Inv Γ F μ hf w) (hT : TRel F μ hf w tf a) {x : Operand} {i : Nat} {vx : VX} (ho : o.op = .extract x i) (hx : cx x = some vx)
    (hr : vop lvl site tf hf (.extract vx i) = some r) : Sim P Γ o a F μ hf w r := by
  obtain ⟨p, hp, hr⟩ := bind_some hr
  have hv := xAO hI hT hx hp
  split at hr
  · rename_i ps
    obtain ⟨q, hq, hr⟩ := bind_some hr
    obtain ⟨h1, h2, _⟩ := xAV hr
    obtain ⟨vs, he, hsz, hrel⟩ := xQ4 hv
    have hlt : i < ps.length := (List.getElem?_eq_some_iff.1 hq).1
    have hy : vs[i]? = some (vs[i]'(by omega)) := Array.getElem?_eq_getElem (by omega)
    refine Sim.pure hI (rv := vs[i]'(by omega)) (by simp only [execOp, ho, he, Instr.extract, Sem.run_bind, hy, Sem.run_pure, Result.andThen_ok]) h1 ?_
    rw [h2]
    have := hrel i q _ hq hy
    cases q <;> first | exact this | exact this.elim
  · cases hr
theorem xSN (hI : Inv Γ F μ hf w) (hT : TRel F μ hf w tf a) {c : Call} {x : Operand} {t : TypeId} {vx : VX} (ho : o.op = .call c) (hc : c.callee = .builtin .len) (hargs : c.args = #[x]) (htys : c.argTypes = #[t]) (ht : P.underlying t = some .string) (hx : cx x = some vx)
    (hr : vop lvl site tf hf (.lenS vx) = some r) : Sim P Γ o a F μ hf w r := by
  obtain ⟨p, hp, hr⟩ := bind_some hr
  have hv := xAO hI hT hx hp
  split at hr
  · rename_i s
    obtain ⟨h1, h2, _⟩ := xAV hr
    have hsz : (⟨s.toArray⟩ : ByteArray).size = s.length := by simp [ByteArray.size]
    refine Sim.pure hI (rv := .int .i64 s.length) ?_ h1 (h2 ▸ VRel.int _ _)
    simp [execOp, ho, hc, resolve, hargs, htys, xCG hv, invoke, builtin, Builtin.len_, run_underlying ht, goInt, hsz]
  · cases hr
theorem xUx (hI : Inv Γ F μ hf w) (hT : TRel F μ hf w tf a) {c : Call} {x : Operand} {t e : TypeId} {vx : VX} (ho : o.op = .call c) (hc : c.callee = .builtin .len) (hargs : c.args = #[x]) (htys : c.argTypes = #[t]) (ht : P.underlying t = some (.slice e)) (hx : cx x = some vx)
    (hr : vop lvl site tf hf (.len vx) = some r) : Sim P Γ o a F μ hf w r := by
  obtain ⟨p, hp, hr⟩ := bind_some hr
  have hv := xAO hI hT hx hp
  have sl : ∀ ad n cap, a.eval x = .slice ad n cap → (execOp a.eval o).run P w = .ok (.value (.int .i64 n)) w := by
    intro ad n cap hav
    simp [execOp, ho, hc, resolve, hargs, htys, hav, invoke, builtin, Builtin.len_, run_underlying ht, goInt]
  split at hr
  all_goals (try (cases hr; done))
  all_goals obtain ⟨h1, h2, _⟩ := xAV hr
  · exact Sim.pure hI (sl _ _ _ (xCD hv)) h1 (h2 ▸ VRel.int _ _)
  · obtain ⟨ad, cap, he⟩ := xFh hv
    exact Sim.pure hI (sl _ _ _ he) h1 (h2 ▸ VRel.int _ _)
  · rename_i ex l _
    have he : ∃ ad cap, a.eval x = .slice ad l.length cap := by
      generalize a.eval x = av at hv
      have hC := xD0 hv
      cases hC <;> exact ⟨_, _, rfl⟩
    obtain ⟨ad, cap, he⟩ := he
    exact Sim.pure hI (sl _ _ _ he) h1 (h2 ▸ VRel.int _ _)
  · obtain ⟨ad, cap, he, _⟩ := xBp hv
    exact Sim.pure hI (sl _ _ _ he) h1 (h2 ▸ VRel.int _ _)
theorem xJQ (hI : Inv Γ F μ hf w) (hT : TRel F μ hf w tf a) {c : Call} {x y : Operand} {vx vy : VX} {mx : Bool} (ho : o.op = .call c) (hc : c.callee = .builtin (if mx then .max else .min)) (hargs : c.args = #[x, y]) (hx : cx x = some vx) (hy : cx y = some vy)
    (hr : vop lvl site tf hf (.minmax mx vx vy) = some r) : Sim P Γ o a F μ hf w r := by
  obtain ⟨p, hp, hr1⟩ := bind_some hr
  clear hr
  obtain ⟨q, hq, hr⟩ := bind_some hr1
  clear hr1
  have hvx := xAO hI hT hx hp
  have hvy := xAO hI hT hy hq
  cases p <;> (try (cases hr; done))
  case int k n =>
    cases q <;> (try (cases hr; done))
    rename_i k' m
    have hr2 : (if k = k' then retV (.int k (if mx then (if m > n then m else n) else (if m < n then m else n))) else none) = some r := hr
    clear hr
    split at hr2
    · rename_i hk
      obtain ⟨h1, h2, _⟩ := xAV hr2
      subst hk
      cases mx <;> simp only [Bool.false_eq_true, if_false, if_true] at hc h2
      · exact Sim.pure hI (rv := _) (by simp [execOp, ho, hc, resolve, hargs, xBO hvx, xBO hvy, invoke, builtin, Builtin.min_, Builtin.min2] <;> rfl) h1 (h2 ▸ VRel.int _ _)
      · exact Sim.pure hI (rv := _) (by simp [execOp, ho, hc, resolve, hargs, xBO hvx, xBO hvy, invoke, builtin, Builtin.max_, Builtin.max2] <;> rfl) h1 (h2 ▸ VRel.int _ _)
    · cases hr2
  case str s =>
    cases q <;> (try (cases hr; done))
    rename_i q
    have hr : retV (.str (if mx then (if Op.bytesLess s q then q else s) else (if Op.bytesLess s q || s == q then s else q))) = some r := hr
    obtain ⟨h1, h2, _⟩ := xAV hr
    cases mx <;> simp only [Bool.false_eq_true, if_false, if_true] at hc h2
    · refine Sim.pure hI (rv := .string ⟨(if (Op.bytesLess s q || s == q) = true then s else q).toArray⟩) ?_ h1 (h2 ▸ VRel.str _)
      cases hb : Op.bytesLess s q <;> cases hb2 : s == q <;>
      simp [execOp, ho, hc, resolve, hargs, xCG hvx, xCG hvy, invoke, builtin, Builtin.min_, Builtin.min2, Op.stringOp, asBool, hb, hb2]
    · refine Sim.pure hI (rv := .string ⟨(if Op.bytesLess s q = true then q else s).toArray⟩) ?_ h1 (h2 ▸ VRel.str _)
      cases hb : Op.bytesLess s q <;>
      simp [execOp, ho, hc, resolve, hargs, xCG hvx, xCG hvy, invoke, builtin, Builtin.max_, Builtin.max2, Op.stringOp, asBool, hb]
end
end Go.V
set_option linter.unusedVariables false
set_option linter.unusedSimpArgs false
namespace Go.V
section
variable {P : Program} {Γ : Ctx} {o : Oper} {a : Act} {F : Nat → Prop} {μ : Bid → Option Nat} {hf : HF} {w : World} {r : Res} {tf : TF} {lvl site : Nat}
theorem xPi (hI : Inv Γ F μ hf w) (hT : TRel F μ hf w tf a) {t e : TypeId} {x y : Operand} {vx vy : VX} {n : Nat} (ho : o.op = .indexAddr t x y) (ht : P.underlying t = some (.slice e)) (hn : xA5 P e = some n) (hx : cx x = some vx) (hy : cx y = some vy)
    (hr : vop lvl site tf hf (.iaddr n vx vy) = some r) : Sim P Γ o a F μ hf w r := by
  obtain ⟨p, hp, hr1⟩ := bind_some hr
  clear hr
  obtain ⟨q, hq, hr⟩ := bind_some hr1
  clear hr1
  have hv := xAO hI hT hx hp
  have hvy := xAO hI hT hy hq
  cases q <;> (try (cases hr; done))
  rename_i kk k
  have hrun : ∀ ad len cap, a.eval x = .slice (some ad) len cap → 0 ≤ k → k < len → (execOp a.eval o).run P w = .ok (.value (.pointer (some (ad.add (k.toNat * n))))) w := by
    intro ad len cap he h0 h1
    simp [execOp, ho, he, xBO hvy, Instr.indexAt, asIntOf, run_underlying ht, h0, h1, xAU hn]
  cases p <;> (try (cases hr; done))
  case own b hw off len =>
    obtain ⟨B, hb, hr⟩ := bind_some hr
    split at hr
    · rename_i hc
      obtain ⟨hc1, hc2, hc3, hc4⟩ := hc
      cases hr
      obtain ⟨ad, cap, he, hsome, B0, hb0, hbox, hle, hcur⟩ := xBp hv
      rw [hb] at hb0
      cases hb0
      obtain ⟨g1, g2⟩ := hcur hc1
      cases hm : μ b with
      | none => rw [hm] at g2; omega
      | some kb =>
        rw [hm] at g2
        obtain ⟨oo, rfl, g3, g4, g5, g6⟩ := g2
        refine Sim.pure hI (hrun _ _ _ he hc3 hc4) rfl ?_
        refine ⟨⟨_, rfl⟩, B, hb, ⟨hle, fun h => by rw [hbox] at h; cases h⟩, fun _ kb' hk' => ?_⟩
        rw [hm] at hk'
        cases hk'
        rw [xBs, g3 (by omega), hc2, Nat.add_mul, Nat.add_zero]
    · cases hr
  case sh ex l =>
    have hr2 : (if 0 ≤ k ∧ k < l.length ∧ ((l[k.toNat]?).map (·.length)) = some n then retV (.sptr l k.toNat 0) else none) = some r := hr
    clear hr
    split at hr2
    · rename_i hc
      obtain ⟨hc1, hc2, hc3⟩ := hc
      obtain ⟨h1, h2, _⟩ := xAV hr2
      generalize hav : a.eval x = av at hv
      have hC := xD0 hv
      cases hC with
      | shn => simp at hc2; omega
      | sh0 => simp at hc2; omega
      | sh _ _ kb off cap esz g hF hcap hex hesz hlen hcc hrr =>
        have hlt : k.toNat < l.length := by omega
        rw [List.getElem?_eq_getElem hlt] at hc3
        have hes : n = esz := by
          have := hlen _ (List.getElem_mem hlt)
          simp at hc3
          omega
        refine Sim.pure hI (hrun _ _ _ hav hc1 hc2) h1 ?_
        rw [h2, xBs, hes, ← Nat.add_zero (off + k.toNat * esz)]
        exact CRel.sptr l k.toNat 0 kb off esz g hF hesz hlen hcc hrr
    · cases hr2
theorem xOZ (hI : Inv Γ F μ hf w) (hT : TRel F μ hf w tf a) {t e : TypeId} {x y : Operand} {vx vy : VX} {m n : Nat} (ho : o.op = .indexAddr t x y) (ht : P.underlying t = some (.array m e)) (hn : xA5 P e = some n) (hx : cx x = some vx) (hy : cx y = some vy)
    (hr : vop lvl site tf hf (.iaddrA m n vx vy) = some r) : Sim P Γ o a F μ hf w r := by
  obtain ⟨p, hp, hr1⟩ := bind_some hr
  clear hr
  obtain ⟨q, hq, hr⟩ := bind_some hr1
  clear hr1
  have hv := xAO hI hT hx hp
  have hvy := xAO hI hT hy hq
  cases q <;> (try (cases hr; done))
  rename_i kk k
  have hrun : ∀ ad, a.eval x = .pointer (some ad) → 0 ≤ k → k < m → (execOp a.eval o).run P w = .ok (.value (.pointer (some (ad.add (k.toNat * n))))) w := by
    intro ad he h0 h1
    simp [execOp, ho, he, xBO hvy, Instr.indexAt, asIntOf, run_underlying ht, Instr.sureAddr, h0, h1, xAU hn]
  have hr2 : (if 0 ≤ k ∧ k < m then (match p with
      | .ptr b hw i j => retV (.ptr b hw i (j + k.toNat * n))
      | .sptr l i j => retV (.sptr l i (j + k.toNat * n))
      | _ => none) else none) = some r := hr
  clear hr
  split at hr2
  · rename_i hc
    cases p <;> (try (cases hr2; done))
    case ptr b hw i j =>
      have hr2 : retV (.ptr b hw i (j + k.toNat * n)) = some r := hr2
      obtain ⟨h1, h2, _⟩ := xAV hr2
      obtain ⟨⟨ad, he⟩, B, hb, hle, hcur⟩ := xEN hv
      refine Sim.pure hI (hrun ad he hc.1 hc.2) h1 ?_
      rw [h2]
      refine ⟨⟨_, rfl⟩, B, hb, hle, fun hcu kb hk => ?_⟩
      have := hcur hcu kb hk
      rw [he] at this
      cases this
      rw [xBs, Nat.add_assoc]
    case sptr l i j =>
      have hr2 : retV (.sptr l i (j + k.toNat * n)) = some r := hr2
      obtain ⟨h1, h2, _⟩ := xAV hr2
      generalize hav : a.eval x = av at hv
      have hC := xFB hv
      cases hC with
      | sptr _ _ _ kb off esz g hF hesz hlen hcc hrr =>
        refine Sim.pure hI (hrun _ hav hc.1 hc.2) h1 ?_
        rw [h2, xBs, Nat.add_assoc]
        exact CRel.sptr l i (j + k.toNat * n) kb off esz g hF hesz hlen hcc hrr
  · cases hr2
theorem PRel.of_V {p : PV} {v : Value} (hc : xRq p = true) (hv : VRel F μ hf w p v) : PRel F μ hf w p v := by
  cases p <;> first | exact hv | (simp [xRq, closed] at hc; done) | skip
  rename_i f cs
  cases cs with
  | nil => exact (SRel.of_closed (μ := μ) (hf := hf) (F := F) (w := w) (p := .fn f []) rfl).1 hv
  | cons c r => simp [xRq, closed] at hc
theorem sim_fn (hI : Inv Γ F μ hf w) (hT : TRel F μ hf w tf a) {f : Nat} {first caps : Array Operand} {vs : List VX} (ho : o.op = .makeFunc (.func f) first caps) (hfb : f < bnd) (hcs : cxs (first.toList ++ caps.toList) = some vs)
    (hr : vop lvl site tf hf (.fn (f + bnd * first.size) vs) = some r) : Sim P Γ o a F μ hf w r := by
  obtain ⟨ps, hps, hr⟩ := bind_some hr
  split at hr
  · rename_i hok
    obtain ⟨h1, h2, _⟩ := xAV hr
    have key : ∀ (l : List Operand) (vs : List VX) (ps : List PV), cxs l = some vs → evs tf vs = some ps → ps.all xRq = true → ps.length = l.length ∧ ∀ (i : Nat) (q : PV) (x : Operand), ps[i]? = some q → l[i]? = some x → PRel F μ hf w q (a.eval x) := by
      intro l
      induction l with
      | nil => intro vs ps h1 h2 _; cases h1; cases h2; exact ⟨rfl, by simp⟩
      | cons x l ih =>
        intro vs ps h1 h2 h3
        obtain ⟨y, hy, h1⟩ := bind_some h1
        obtain ⟨ys, hys, rfl⟩ := map_some h1
        obtain ⟨p, hp, h2⟩ := bind_some h2
        obtain ⟨qs, hqs, rfl⟩ := map_some h2
        simp only [List.all_cons, Bool.and_eq_true] at h3
        obtain ⟨g1, g2⟩ := ih ys qs hys hqs h3.2
        refine ⟨by simp [g1], fun i q z a1 a2 => ?_⟩
        cases i with
        | zero =>
          simp at a1 a2
          subst a1; subst a2
          have hv := xAO hI hT hy hp
          exact PRel.of_V h3.1 hv
        | succ i => exact g2 i q z (by simpa using a1) (by simpa using a2)
    obtain ⟨k1, k2⟩ := key _ _ _ hcs hps hok
    refine Sim.pure hI (rv := .func (.func f) (first.map a.eval) (caps.map a.eval)) (by simp [execOp, ho, Instr.makeFunc]) h1 ?_
    rw [h2]
    have e1 : fnId (f + bnd * first.size) = f := by unfold fnId; rw [Nat.add_mul_mod_self_left]; exact Nat.mod_eq_of_lt hfb
    have e2 : fnN (f + bnd * first.size) = first.size := by
      unfold fnN
      rw [Nat.add_mul_div_left _ _ (by decide : 0 < bnd), Nat.div_eq_of_lt hfb, Nat.zero_add]
    refine ⟨(first ++ caps).map a.eval, ?_, by simp [k1], fun i q x b1 b2 => ?_⟩
    · rw [e1, e2]
      have g1 := extr1 (first.map a.eval) (caps.map a.eval)
      have g2 := extr2 (first.map a.eval) (caps.map a.eval)
      rw [← Array.map_append, Array.size_map] at g1 g2
      rw [g1, g2]
    · rw [Array.getElem?_map] at b2
      obtain ⟨z, hz, rfl⟩ := map_some b2
      refine k2 i q z b1 ?_
      rw [← Array.toList_append, Array.getElem?_toList]
      exact hz
  · cases hr
theorem xLC (hI : Inv Γ F μ hf w) (hT : TRel F μ hf w tf a) {neg : Bool} {op : BinOp} {t u e : TypeId} {x y : Operand} {vx : VX} (ho : o.op = .binOp op t x y u) (hop : op = (if neg then .neq else .eql)) (ht : P.underlying t = some (.slice e)) (hy : xJj y = true) (hx : cx x = some vx)
    (hr : vop lvl site tf hf (.isnil neg vx) = some r) : Sim P Γ o a F μ hf w r := by
  obtain ⟨p, hp, hr1⟩ := bind_some hr
  clear hr
  have hv := xAO hI hT hx hp
  have hyv : a.eval y = .slice none 0 0 := by
    unfold xJj at hy
    split at hy
    · rfl
    · cases hy
  have hrun : ∀ ad n cap, a.eval x = .slice ad n cap → (execOp a.eval o).run P w = .ok (.value (.bool (if neg then ad.isSome else ad.isNone))) w := by
    intro ad n cap he
    have hg : (eqGuard op t x y (.slice ad n cap) (.slice none 0 0)).run P w = .ok () w := by cases op <;> simp [eqGuard]
    have he' : (Op.equal t (.slice ad n cap) (.slice none 0 0)).run P w = .ok ad.isNone w := by
      show (Op.equalIn (9999 + 1) t _ _).run P w = _
      unfold Op.equalIn
      rw [Sem.run_bind, run_underlying ht]
      cases ad <;> rfl
    subst hop
    cases neg
    · simp only [Bool.false_eq_true, if_false] at ho hg ⊢
      simp only [execOp, ho, he, hyv, Sem.run_bind, hg, Result.andThen_ok, Go.binOp, he', Sem.run_pure]
    · simp only [if_true] at ho hg ⊢
      simp only [execOp, ho, he, hyv, Sem.run_bind, hg, Result.andThen_ok, Go.binOp, he', Sem.run_pure]
      cases ad <;> rfl
  cases p <;> (try (cases hr1; done))
  case nils =>
    have hr : retV (.bool (if neg then false else true)) = some r := hr1
    obtain ⟨h1, h2, _⟩ := xAV hr
    exact Sim.pure hI (hrun _ _ _ (xCD hv)) h1 (by rw [h2]; exact VRel.bool _)
  case she =>
    have hr : retV (.bool (if neg then true else false)) = some r := hr1
    obtain ⟨h1, h2, _⟩ := xAV hr
    obtain ⟨ad, cap, he⟩ := xFh hv
    exact Sim.pure hI (hrun _ _ _ he) h1 (by rw [h2]; exact VRel.bool _)
  case sh ex l =>
    cases l with
    | nil => cases hr1
    | cons e0 l =>
      have hr : retV (.bool (if neg then true else false)) = some r := hr1
      obtain ⟨h1, h2, _⟩ := xAV hr
      generalize hav : a.eval x = av at hv
      have hC := xD0 hv
      cases hC with
      | sh _ _ kb off cap esz g hF hcap hex hesz hlen hcc hrr =>
        exact Sim.pure hI (hrun _ _ _ hav) h1 (by rw [h2]; exact VRel.bool _)
  case own b hw off len =>
    cases len with
    | zero => cases hr1
    | succ len =>
      have hr : retV (.bool (if neg then true else false)) = some r := hr1
      obtain ⟨h1, h2, _⟩ := xAV hr
      obtain ⟨ad, cap, he, hsome, _⟩ := xBp hv
      have := hsome (by omega)
      cases ad with
      | none => cases this
      | some ad => exact Sim.pure hI (hrun _ _ _ he) h1 (by rw [h2]; exact VRel.bool _)
theorem xPz {k : IntKind} {n : Int} {y : Nat} {c : BoundsCode} (h0 : 0 ≤ n) (h1 : n ≤ y) : (Instr.sliceBound (.int k n) y c).run P w = .ok n.toNat w := by
  simp [Instr.sliceBound, asIntOf, h0, h1]
theorem xMw (hI : Inv Γ F μ hf w) {x : Option Operand} {vx : Option VX} {d n : Int} (hT : TRel F μ hf w tf a) (h : cxo x = some vx) (he : xAR tf d vx = some n) : (x = none ∧ vx = none ∧ n = d) ∨ (∃ y k, x = some y ∧ vx.isSome = true ∧ a.eval y = .int k n) := by
  cases x with
  | none => cases h; cases he; exact .inl ⟨rfl, rfl, rfl⟩
  | some y =>
    obtain ⟨v, hv, rfl⟩ := map_some h
    obtain ⟨p, hp, he⟩ := bind_some he
    have := xAO hI hT hv hp
    split at he
    · cases he
      exact .inr ⟨y, _, rfl, rfl, xBO this⟩
    · cases he
theorem xDC {isSlice : Bool} {len cap : Nat} {lo hi mx : Option Operand} {vlo vhi vmx : Option VX} {l h m : Int} (hI : Inv Γ F μ hf w) (hT : TRel F μ hf w tf a) (hl : cxo lo = some vlo) (hh : cxo hi = some vhi) (hm : cxo mx = some vmx)
    (el : xAR tf 0 vlo = some l) (eh : xAR tf len vhi = some h) (em : xAR tf cap vmx = some m) (hmh : mx.isSome = true → hi.isSome = true) (h0 : 0 ≤ l) (h1 : l ≤ h) (h2 : h ≤ m) (h3 : m ≤ cap) :
    (Instr.sliceBounds isSlice len cap (lo.map a.eval) (hi.map a.eval) (mx.map a.eval)).run P w = .ok (l.toNat, h.toNat, m.toNat) w := by
  rcases xMw hI hT hl el with ⟨rfl, rfl, rfl⟩ | ⟨yl, kl, rfl, _, hyl⟩ <;>
  rcases xMw hI hT hh eh with ⟨rfl, rfl, rfl⟩ | ⟨yh, kh, rfl, _, hyh⟩ <;>
  rcases xMw hI hT hm em with ⟨rfl, rfl, rfl⟩ | ⟨ym, km, rfl, _, hym⟩ <;>
  (try (simp at hmh; done)) <;>
  simp only [Instr.sliceBounds, Option.map_none, Option.map_some, Sem.run_bind, Sem.run_pure, Result.andThen_ok]
  all_goals
    try simp only [hyl, hyh, hym]
    try simp only [hyl, hyh]
    try simp only [hyl, hym]
    try simp only [hyh, hym]
    try simp only [hyl]
    try simp only [hyh]
    repeat (rw [xPz (by omega) (by omega)]; simp only [Result.andThen_ok, Sem.run_pure])
    try simp
theorem xPd (hI : Inv Γ F μ hf w) (hT : TRel F μ hf w tf a) {t : TypeId} {x : Operand} {lo hi : Option Operand} {vx : VX} {vlo vhi : Option VX} (ho : o.op = .slice t x lo hi none) (ht : P.underlying t = some .string) (hx : cx x = some vx) (hl : cxo lo = some vlo) (hh : cxo hi = some vhi)
    (hr : vop lvl site tf hf (.slstr vx vlo vhi) = some r) : Sim P Γ o a F μ hf w r := by
  obtain ⟨p, hp, hr1⟩ := bind_some hr
  clear hr
  have hv := xAO hI hT hx hp
  cases p <;> (try (cases hr1; done))
  rename_i s
  obtain ⟨l, el, hr1⟩ := bind_some hr1
  obtain ⟨h, eh, hr1⟩ := bind_some hr1
  split at hr1
  · rename_i hc
    obtain ⟨h1, h2, _⟩ := xAV hr1
    have hsz : (⟨s.toArray⟩ : ByteArray).size = s.length := by simp [ByteArray.size]
    have hb := xDC (P := P) (w := w) (isSlice := false) (len := s.length) (cap := s.length) (mx := none) (vmx := none) (m := s.length) hI hT hl hh rfl el eh rfl (by simp) hc.1 hc.2.1 hc.2.2 (by omega)
    simp only [Option.map_none] at hb
    refine Sim.pure hI (rv := .string ⟨((s.drop l.toNat).take (h.toNat - l.toNat)).toArray⟩) ?_ h1 (h2 ▸ VRel.str _)
    have he : (⟨s.toArray⟩ : ByteArray).extract l.toNat h.toNat = ⟨((s.drop l.toNat).take (h.toNat - l.toNat)).toArray⟩ := by
      apply ByteArray.ext
      simp [ByteArray.data_extract, List.extract_eq_take_drop]
    simp only [execOp, ho, xCG hv, Instr.sliceAt, Sem.run_bind, run_underlying ht, Result.andThen_ok, Instr.slice, Option.map_none, hsz, hb, Option.isSome_none, Bool.false_eq_true, if_false, Sem.run_pure, he]
  · cases hr1
theorem xSI (hI : Inv Γ F μ hf w) (hT : TRel F μ hf w tf a) {t e : TypeId} {x : Operand} {lo hi mx : Option Operand} {vx : VX} {vlo vhi vmx : Option VX} {n : Nat} (ho : o.op = .slice t x lo hi mx) (ht : P.underlying t = some (.slice e)) (hn : xA5 P e = some n) (hn0 : 0 < n) (hmh : vmx.isSome = true → vhi.isSome = true)
    (hx : cx x = some vx) (hl : cxo lo = some vlo) (hh : cxo hi = some vhi) (hm : cxo mx = some vmx) (hr : vop lvl site tf hf (.slsl n vx vlo vhi vmx) = some r) : Sim P Γ o a F μ hf w r := by
  obtain ⟨p, hp, hr1⟩ := bind_some hr
  clear hr
  have hv := xAO hI hT hx hp
  have hmh' : mx.isSome = true → hi.isSome = true := by
    intro h
    cases mx with
    | none => cases h
    | some m0 =>
      obtain ⟨v, _, rfl⟩ := map_some hm
      have := hmh rfl
      cases hi with
      | none => cases hh; cases this
      | some _ => rfl
  have hrun : ∀ ad len cap l h m, a.eval x = .slice ad len cap → xAR tf 0 vlo = some l → xAR tf len vhi = some h → xAR tf cap vmx = some m → 0 ≤ l → l ≤ h → h ≤ m → m ≤ cap →
      (execOp a.eval o).run P w = .ok (.value (.slice (if m.toNat = l.toNat then ad else ad.map (·.add (l.toNat * n))) (h.toNat - l.toNat) (m.toNat - l.toNat))) w := by
    intro ad len cap l h m he el eh em h0 h1 h2 h3
    have hb := xDC (P := P) (w := w) (isSlice := true) hI hT hl hh hm el eh em hmh' h0 h1 h2 h3
    simp only [execOp, ho, he, Instr.sliceAt, Sem.run_bind, run_underlying ht, Result.andThen_ok, Instr.slice, hb, xAU hn, Sem.run_pure]
  cases p <;> (try (cases hr1; done))
  case own b hw off len =>
    obtain ⟨l, el, hr1⟩ := bind_some hr1
    obtain ⟨h, eh, hr1⟩ := bind_some hr1
    split at hr1
    · rename_i hc
      obtain ⟨hc1, hc2, hc3, hc4⟩ := hc
      obtain ⟨B, hb, hr1⟩ := bind_some hr1
      split at hr1
      · rename_i hcur'
        obtain ⟨hce, hcw⟩ := hcur'
        cases hr1
        obtain ⟨ad, cap, he, hsome, B0, hb0, hbox, hle, hcur⟩ := xBp hv
        rw [hb] at hb0
        cases hb0
        obtain ⟨g1, g2⟩ := hcur hcw
        have hmx : vmx = none := by simpa using hc1
        subst hmx
        have hoh : off + h.toNat ≤ hw := by
          rcases hc4 with h4 | h4
          · omega
          · exact h4
        have hBk := (hI.blk b B hb).2.2.2.2
        have hlc : h.toNat ≤ cap := by
          cases hm : μ b with
          | none =>
            rw [hm] at hBk
            rw [hBk.1] at hcw
            simp at hcw
            omega
          | some kb => rw [hm] at g2; obtain ⟨_, _, _, q, _, q2⟩ := g2; omega
        have hct : (cap : Int).toNat = cap := Int.toNat_natCast cap
        have hR := hrun ad len cap l h cap he el eh rfl hc2 hc3 (by omega) (by omega)
        rw [hct] at hR
        refine Sim.pure hI hR rfl ?_
        refine ⟨_, _, rfl, fun hlt => ?_, B, hb, hbox, hle, fun _ => ⟨by omega, ?_⟩⟩
        · have : ad.isSome = true := by
            cases hm : μ b with
            | none =>
              rw [hm] at hBk
              rw [hBk.1] at hcw
              simp at hcw
              omega
            | some kb => rw [hm] at g2; obtain ⟨oo, rfl, _⟩ := g2; rfl
          split
          · exact this
          · simpa using this
        · cases hm : μ b with
          | none =>
            rw [hm] at g2 hBk
            obtain ⟨rfl, rfl, rfl, rfl⟩ := g2
            have hw0 : hw = 0 := by rw [hcw, hBk.1]; rfl
            have : l.toNat = 0 := by omega
            have : h.toNat = 0 := by omega
            simp [*]
          | some kb =>
            rw [hm] at g2
            obtain ⟨oo, rfl, g3, g4, g5, g6⟩ := g2
            by_cases hcl : cap = l.toNat
            · refine ⟨oo, by rw [if_pos hcl], fun h => by omega, by omega, ?_, by omega⟩
              have : off + l.toNat + (cap - l.toNat) = off + cap := by omega
              rw [this]
              exact g5
            · refine ⟨oo + l.toNat * n, by rw [if_neg hcl, Option.map_some, xBs], fun h => ?_, by omega, ?_, by omega⟩
              · rw [g3 (by omega), hce, Nat.add_mul]
              · have : off + l.toNat + (cap - l.toNat) = off + cap := by omega
                rw [this]
                exact g5
      · cases hr1
    · cases hr1
  case nils =>
    obtain ⟨l, el, hr1⟩ := bind_some hr1
    obtain ⟨h, eh, hr1⟩ := bind_some hr1
    obtain ⟨m, em, hr1⟩ := bind_some hr1
    split at hr1
    · rename_i hc
      obtain ⟨h1, h2, _⟩ := xAV hr1
      obtain ⟨rfl, rfl, rfl⟩ := hc
      refine Sim.pure hI (hrun none 0 0 0 0 0 (xCD hv) el eh em (by omega) (by omega) (by omega) (by omega)) h1 ?_
      rw [h2]
      exact CRel.nils
    · cases hr1
  case she =>
    obtain ⟨l, el, hr1⟩ := bind_some hr1
    obtain ⟨h, eh, hr1⟩ := bind_some hr1
    obtain ⟨m, em, hr1⟩ := bind_some hr1
    split at hr1
    · rename_i hc
      obtain ⟨h1, h2, _⟩ := xAV hr1
      obtain ⟨rfl, rfl, rfl⟩ := hc
      obtain ⟨ad, cap, he⟩ := xFh hv
      cases vmx with
      | none =>
        refine Sim.pure hI (hrun (some ad) 0 cap 0 0 cap he el eh rfl (by omega) (by omega) (by omega) (by omega)) h1 ?_
        rw [h2]
        simp only [Int.toNat_zero, Nat.sub_zero, Nat.zero_mul, Option.map_some, Nat.sub_self]
        split <;> exact CRel.she _ _
      | some v =>
        refine Sim.pure hI (hrun (some ad) 0 cap 0 0 0 he el eh em (by omega) (by omega) (by omega) (by omega)) h1 ?_
        rw [h2]
        exact CRel.she _ _
    · cases hr1
  case sh ex q =>
    obtain ⟨l, el, hr1⟩ := bind_some hr1
    obtain ⟨h, eh, hr1⟩ := bind_some hr1
    obtain ⟨m, em, hr1⟩ := bind_some hr1
    split at hr1
    · rename_i hc
      obtain ⟨hc0, hc1, hc2, hc3, hc4⟩ := hc
      obtain ⟨h1, h2, _⟩ := xAV hr1
      have zero : ∀ ad' : Option Addr, ∀ cap' : Nat, (q.drop l.toNat).take (h.toNat - l.toNat) = [] → h.toNat - l.toNat = 0 → ((if vmx.isSome then decide (m = h) else (ex && decide (h = q.length))) = true → cap' = 0) → (ad' = none → cap' = 0) →
          VRel F μ hf w r.v (.slice ad' (h.toNat - l.toNat) cap') := by
        intro ad' cap' e1 e2 e3 e4
        rw [h2, e1, e2]
        cases ad' with
        | none => rw [e4 rfl]; exact CRel.shn _
        | some a' => exact CRel.sh0 _ a' cap' e3
      generalize hav : a.eval x = av at hv
      have hC := xD0 hv
      cases hC with
      | shn =>
        simp at hc3
        have e1 : l = 0 := by omega
        have e2 : h = 0 := by omega
        have e3 : m = 0 := by omega
        subst e1; subst e2; subst e3
        refine Sim.pure hI (hrun none 0 0 0 0 0 hav el eh em (by omega) (by omega) (by omega) (by omega)) h1 ?_
        exact zero _ _ (by simp) (by simp) (fun _ => by simp) (fun _ => by simp)
      | sh0 _ ad cap hex =>
        simp at hc3
        have e1 : l = 0 := by omega
        have e2 : h = 0 := by omega
        have e3 : m = 0 := by omega
        subst e1; subst e2; subst e3
        cases vmx with
        | none =>
          refine Sim.pure hI (hrun (some ad) 0 cap 0 0 cap hav el eh rfl (by omega) (by omega) (by omega) (by omega)) h1 ?_
          refine zero _ _ (by simp) (by simp) (fun hh => ?_) (fun hh => ?_)
          · simp at hh
            simp [hex hh]
          · split at hh <;> simp at hh
        | some v =>
          refine Sim.pure hI (hrun (some ad) 0 cap 0 0 0 hav el eh em (by omega) (by omega) (by omega) (by omega)) h1 ?_
          refine zero _ _ (by simp) (by simp) (fun hh => by simp) (fun hh => ?_)
          split at hh <;> simp at hh
      | sh _ _ kb off cap esz g hF hcap hex hesz hlen hcc hrr =>
        have main : ∀ mm : Int, xAR tf cap vmx = some mm → h ≤ mm → mm ≤ cap → ((if vmx.isSome then decide (m = h) else (ex && decide (h = q.length))) = true → mm = h) → Sim P Γ o a F μ hf w r := by
          intro mm em' hmm1 hmm2 hexx
          refine Sim.pure hI (hrun (some ⟨kb, off, none⟩) q.length cap l h mm hav el eh em' hc0 hc1 hmm1 hmm2) h1 ?_
          by_cases hlh : h.toNat - l.toNat = 0
          · refine zero _ _ (by rw [hlh]; simp) hlh (fun hh => ?_) (fun hh => ?_)
            · have := hexx hh; omega
            · split at hh <;> simp at hh
          · have hne : mm.toNat ≠ l.toNat := by omega
            have hll : ((q.drop l.toNat).take (h.toNat - l.toNat)).length = h.toNat - l.toNat := by simp; omega
            rw [h2, if_neg hne, Option.map_some, xBs]
            have hes : n = esz := by
              have hlt : 0 < q.length := by omega
              have i1 := hc4 _ (List.getElem_mem hlt)
              have i2 := hlen _ (List.getElem_mem hlt)
              omega
            subst hes
            have idx : ∀ i el, ((q.drop l.toNat).take (h.toNat - l.toNat))[i]? = some el → q[l.toNat + i]? = some el := by
              intro i el hi
              rw [List.getElem?_take, List.getElem?_drop] at hi
              split at hi
              · exact hi
              · cases hi
            have fin := CRel.sh (F := F) (w := w) (if vmx.isSome then decide (m = h) else (ex && decide (h = q.length))) ((q.drop l.toNat).take (h.toNat - l.toNat)) kb (off + l.toNat * n) (mm.toNat - l.toNat) n (fun i j => g (l.toNat + i) j) hF (by rw [hll]; omega) (fun hh => by have := hexx hh; rw [hll]; omega) hn0 (fun e he => hlen e (List.mem_of_mem_drop (List.mem_of_mem_take he))) (fun i j el p a1 a2 => by
              have := hcc _ j el p (idx i el a1) a2
              rw [Nat.add_mul] at this
              rw [← this]
              congr 2
              omega) (fun i j el p a1 a2 => hrr _ j el p (idx i el a1) a2)
            rw [hll] at fin
            exact fin
        cases vmx with
        | none =>
          have em2 : m = q.length := by cases em; rfl
          refine main cap rfl (by omega) (by omega) (fun hh => ?_)
          simp at hh
          have := hex hh.1
          omega
        | some v =>
          refine main m em hc2 (by omega) (fun hh => ?_)
          simpa using hh
    · cases hr1
theorem xJR (hI : Inv Γ F μ hf w) (hT : TRel F μ hf w tf a) {neg : Bool} {op : BinOp} {t u : TypeId} {ms : Array (String × TypeId)} {x y : Operand} {vx : VX} (ho : o.op = .binOp op t x y u) (hop : op = (if neg then .neq else .eql)) (ht : P.underlying t = some (.interface ms)) (hy : xIa y = true) (hx : cx x = some vx)
    (hr : vop lvl site tf hf (.isnili neg vx) = some r) : Sim P Γ o a F μ hf w r := by
  obtain ⟨p, hp, hr1⟩ := bind_some hr
  clear hr
  have hv := xAO hI hT hx hp
  obtain ⟨z, rfl⟩ : ∃ z, y = .const z := by
    unfold xIa at hy
    split at hy
    · exact ⟨_, rfl⟩
    · cases hy
  have hyv : z = .nilIface := by
    unfold xIa at hy
    split at hy
    · next h => cases h; rfl
    · cases hy
  subst hyv
  have hye : a.eval (.const .nilIface) = .nilIface := rfl
  cases p <;> (try (cases hr1; done))
  case nili =>
    have hr : retV (.bool (if neg then false else true)) = some r := hr1
    obtain ⟨h1, h2, _⟩ := xAV hr
    have he := xTQ hv
    have hg : (eqGuard op t x (.const .nilIface) .nilIface .nilIface).run P w = .ok () w := by cases op <;> simp [eqGuard]
    have he' : (Op.equal t .nilIface .nilIface).run P w = .ok true w := by
      show (Op.equalIn (9999 + 1) t _ _).run P w = _
      unfold Op.equalIn
      rw [Sem.run_bind, run_underlying ht]
      rfl
    refine Sim.pure hI (rv := .bool (if neg then false else true)) ?_ h1 (by rw [h2]; exact VRel.bool _)
    subst hop
    cases neg
    · simp only [Bool.false_eq_true, if_false] at ho hg ⊢
      simp only [execOp, ho, he, hye, Sem.run_bind, hg, Result.andThen_ok, Go.binOp, he', Sem.run_pure]
    · simp only [if_true] at ho hg ⊢
      simp only [execOp, ho, he, hye, Sem.run_bind, hg, Result.andThen_ok, Go.binOp, he', Sem.run_pure]
      rfl
  case ifc t0 cs =>
    have hr : retV (.bool (if neg then true else false)) = some r := hr1
    obtain ⟨h1, h2, _⟩ := xAV hr
    obtain ⟨rc, he, _, _⟩ := xQ5 hv
    have hg : (eqGuard op t x (.const .nilIface) (.iface t0 (.agg rc)) .nilIface).run P w = .ok () w := by cases op <;> simp [eqGuard]
    have he' : (Op.equal t (.iface t0 (.agg rc)) .nilIface).run P w = .ok false w := by
      show (Op.equalIn (9999 + 1) t _ _).run P w = _
      unfold Op.equalIn
      rw [Sem.run_bind, run_underlying ht]
      rfl
    refine Sim.pure hI (rv := .bool (if neg then true else false)) ?_ h1 (by rw [h2]; exact VRel.bool _)
    subst hop
    cases neg
    · simp only [Bool.false_eq_true, if_false] at ho hg ⊢
      simp only [execOp, ho, he, hye, Sem.run_bind, hg, Result.andThen_ok, Go.binOp, he', Sem.run_pure]
    · simp only [if_true] at ho hg ⊢
      simp only [execOp, ho, he, hye, Sem.run_bind, hg, Result.andThen_ok, Go.binOp, he', Sem.run_pure]
      rfl
theorem xPh (hI : Inv Γ F μ hf w) (hT : TRel F μ hf w tf a) {t : TypeId} {d : TypeDesc} {x : Operand} {vx : VX} (ho : o.op = .makeInterface t x) (ht : P.underlying t = some d) (hd : ∀ ms, d ≠ .interface ms) (hx : cx x = some vx) (hr : vop lvl site tf hf (.mkifc t vx) = some r) : Sim P Γ o a F μ hf w r := by
  obtain ⟨p, hp, hr1⟩ := bind_some hr
  clear hr
  have hv := xAO hI hT hx hp
  cases p <;> (try (cases hr1; done))
  rename_i cs
  have hr : (if cs.all closed = true then retV (.ifc t cs) else none) = some r := hr1
  split at hr
  · rename_i hc
    obtain ⟨h1, h2, _⟩ := xAV hr
    obtain ⟨vs, he, hs, hrel⟩ := xFi hv
    refine Sim.pure hI (rv := .iface t (.agg vs)) ?_ h1 ?_
    · have : (Instr.makeInterface t (a.eval x)).run P w = .ok (.iface t (a.eval x)) w := by
        unfold Instr.makeInterface
        rw [Sem.run_bind, run_underlying ht]
        cases d <;> first | rfl | exact absurd rfl (hd _)
      rw [← he]
      simp only [execOp, ho, Sem.run_bind, this, Result.andThen_ok, Sem.run_pure]
    · rw [h2]
      refine VRel.of_C (.ifc t cs vs hs (fun i p y a1 a2 => ?_))
      exact (SRel.of_closed (List.all_eq_true.1 hc p (List.mem_of_getElem? a1))).1 (hrel i p y a1 a2)
  · cases hr
end
end Go.V
set_option linter.unusedVariables false
set_option linter.unusedSimpArgs false
namespace Go.V
section
variable {P : Program} {Γ : Ctx} {o : Oper} {a : Act} {F : Nat → Prop} {μ : Bid → Option Nat} {hf : HF} {w : World} {r : Res} {tf : TF} {lvl site : Nat}
theorem xRr (hI : Inv Γ F μ hf w) {b : Bid} {B : Blk} {w' : World} (hsz : 1 = B.els.length) (hk : updM μ b (some w.heap.size) b = some w.heap.size) :
    PtrRel (updM μ b (some w.heap.size)) (updH hf b B) b 1 0 0 (.pointer (some ⟨w.heap.size, 0, none⟩)) :=
  ⟨⟨_, rfl⟩, B, by simp [updH], by omega, fun _ k hk' => by rw [hk] at hk'; cases hk'; simp⟩
theorem xUz (hI : Inv Γ F μ hf w) (hT : TRel F μ hf w tf a) {e : TypeId} {x : Operand} {vx : VX} (ho : o.op = .box e x) (hx : cx x = some vx)
    (hr : vop lvl site tf hf (.box vx) = some r) : Sim P Γ o a F μ hf w r := by
  obtain ⟨p, hp, hr⟩ := bind_some hr
  have hv := xAO hI hT hx hp
  split at hr
  · rename_i hc
    obtain ⟨hc1, hc2, hc3⟩ := hc
    cases hr
    obtain ⟨g1, g2⟩ := xE5 hv hc2
    obtain ⟨hI', hK⟩ := hI.alloc (w1 := w) ⟨lvl, site⟩ hc1 ⟨true, false, (xAY p).length, [xAY p]⟩ (a.eval x).cells e rfl rfl rfl rfl rfl hc3 (by simp) (by simp) (by simp) (by simp [g1]) (by
      intro i j el q h1 h2
      cases i with
      | zero =>
        simp at h1
        subst h1
        obtain ⟨y, hy, hs, _⟩ := g2 j q h2
        exact ⟨y, by simpa using hy, hs⟩
      | succ i => simp at h1) (fun h => by cases h)
    exact ⟨.pointer (some ⟨w.heap.size, 0, none⟩), _, F, _, .inl (by simp [execOp, ho, Instr.box, newVar, newRow]), hI', hK, xRr (w' := w) hI rfl (by simp [updM])⟩
  · cases hr
theorem xFr {t : TypeId} {z : List PV} (h : xDh P t = some z) : ∃ zv, (zeroValue t).run P w = .ok zv w ∧ zv.cells.size = z.length ∧ ∀ (i : Nat) (p : PV), z[i]? = some p → ∃ x, zv.cells[i]? = some x ∧ CRel F w p x := by
  obtain ⟨zv, hz, h⟩ := bind_some h
  obtain ⟨i, hi, hz⟩ := bind_some hz
  obtain ⟨h1, h2⟩ := xDR (F := F) (w := w) h
  refine ⟨zv, by simp [zeroValue, typeInfo, hi, hz], by simpa using h1.symm, fun i p hp => ?_⟩
  have hlt : i < z.length := (List.getElem?_eq_some_iff.1 hp).1
  have hs : zv.cells.toList.length = z.length := h1.symm
  have hx : zv.cells.toList[i]? = some (zv.cells.toList[i]'(by omega)) := List.getElem?_eq_getElem (by omega)
  exact ⟨_, by rw [← Array.getElem?_toList]; exact hx, h2 i p _ hp hx⟩
theorem xPs (hI : Inv Γ F μ hf w) {e : TypeId} {z : List PV} (ho : o.op = .alloc e) (hz : xDh P e = some z)
    (hr : vop lvl site tf hf (.alloc z) = some r) : Sim P Γ o a F μ hf w r := by
  have hr : (if hf ⟨lvl, site⟩ = none ∧ z.all closed = true ∧ 0 < z.length then some (⟨.ptr ⟨lvl, site⟩ 1 0 0, [(⟨lvl, site⟩, ⟨true, false, z.length, [z]⟩)], []⟩ : Res) else none) = some r := hr
  split at hr
  · rename_i hc
    obtain ⟨hc1, hc2, hc3⟩ := hc
    cases hr
    obtain ⟨zv, hrun, g1, g2⟩ := xFr (F := F) (w := w) hz
    obtain ⟨hI', hK⟩ := hI.alloc (w1 := w) ⟨lvl, site⟩ hc1 ⟨true, false, z.length, [z]⟩ zv.cells e rfl rfl rfl rfl rfl hc3 (by simp) (by simp) (by simp) (by simp [g1]) (by
      intro i j el q h1 h2
      cases i with
      | zero =>
        simp at h1
        subst h1
        obtain ⟨y, hy, hs⟩ := g2 j q h2
        exact ⟨y, by simpa using hy, (SRel.of_closed hs.closed).2 hs⟩
      | succ i => simp at h1) (fun h => by cases h)
    exact ⟨.pointer (some ⟨w.heap.size, 0, none⟩), _, F, _, .inl (by simp [execOp, ho, Instr.alloc, hrun, newVar, newRow]), hI', hK, xRr (w' := w) hI rfl (by simp [updM])⟩
  · cases hr
theorem xLv (off : Nat) : ∀ (l : List Value) (s : Nat) (cs : Array Value), off + s + l.length ≤ cs.size →
    ((l.zipIdx s).foldl (fun cs (x : Value × Nat) => cs.setIfInBounds (off + x.2) x.1) cs).size = cs.size ∧
    ∀ k, ((l.zipIdx s).foldl (fun cs (x : Value × Nat) => cs.setIfInBounds (off + x.2) x.1) cs)[k]? = if off + s ≤ k ∧ k < off + s + l.length then l[k - (off + s)]? else cs[k]?
  | [], s, cs, h => ⟨rfl, fun k => by simp; intro a b; omega⟩
  | v :: l, s, cs, h => by
    simp only [List.length_cons] at h
    obtain ⟨h1, h2⟩ := xLv off l (s + 1) (cs.setIfInBounds (off + s) v) (by simp; omega)
    simp only [List.zipIdx_cons, List.foldl_cons]
    refine ⟨by simpa using h1, fun k => ?_⟩
    rw [h2 k]
    by_cases e : k = off + s
    · subst e
      rw [if_neg (by omega), if_pos ⟨by omega, by simp⟩]
      simp [show off + s < cs.size by omega]
    · by_cases hin : off + s ≤ k ∧ k < off + s + (l.length + 1)
      · rw [if_pos (by omega), if_pos (by simpa using hin)]
        have : k - (off + s) = (k - (off + (s + 1))) + 1 := by omega
        rw [this, List.getElem?_cons_succ]
      · rw [if_neg (by omega), if_neg (by simpa using hin)]
        rw [Array.getElem?_setIfInBounds_ne (by omega)]
theorem xN7 (off : Nat) (v : Value) (cs : Array Value) (h : off + v.cells.size ≤ cs.size) :
    (v.cells.zipIdx.foldl (fun cs (c, j) => cs.setIfInBounds (off + j) c) cs).size = cs.size ∧
    ∀ k, (v.cells.zipIdx.foldl (fun cs (c, j) => cs.setIfInBounds (off + j) c) cs)[k]? = if off ≤ k ∧ k < off + v.cells.size then v.cells[k - off]? else cs[k]? := by
  have := xLv off v.cells.toList 0 cs (by simpa using h)
  rw [← Array.foldl_toList, Array.toList_zipIdx]
  simpa using this
def xOL (F : Nat → Prop) (μ : Bid → Option Nat) (hf : HF) (w : World) (ps : List PV) (c : Array Value) : Prop :=
  c.size = ps.length ∧ ∀ (i : Nat) (p : PV), ps[i]? = some p → ∃ x, c[i]? = some x ∧ SRel F μ hf w p x
theorem xJP (cells ps : List PV) (off n k : Nat) (h1 : ps.length = n) (h2 : off + n ≤ cells.length) :
    (cells.take off ++ ps ++ cells.drop (off + n))[k]? = if off ≤ k ∧ k < off + n then ps[k - off]? else cells[k]? := by
  have hlt : (cells.take off).length = off := by simp; omega
  by_cases a : k < off
  · rw [if_neg (by omega), List.append_assoc, List.getElem?_append_left (by omega), List.getElem?_take, if_pos a]
  · by_cases b : k < off + n
    · rw [if_pos ⟨by omega, b⟩, List.getElem?_append_left (by simp; omega), List.getElem?_append_right (by omega), hlt]
    · rw [if_neg (by omega), List.getElem?_append_right (by simp; omega), List.getElem?_drop]
      congr 1
      simp
      omega
theorem xQ1 (place : Nat → Option (Nat × Nat)) : ∀ (vs : List (Nat × Nat × PV)) (rs : List (Nat × Value)) (cells : List PV) (c : Array Value) (out : List PV),
    xOL F μ hf w cells c → lay cells vs = some out → vs.length = rs.length →
    (∀ (i : Nat) (off n : Nat) (p : PV) (ix : Nat) (v : Value), vs[i]? = some (off, n, p) → rs[i]? = some (ix, v) → place ix = some (off, n) ∧ VRel F μ hf w p v) →
    ∃ c', Instr.fill place c rs = some c' ∧ xOL F μ hf w out c'
  | [], [], cells, c, out, hc, h, _, _ => by cases h; exact ⟨c, rfl, hc⟩
  | [], _ :: _, _, _, _, _, _, h, _ => by simp at h
  | _ :: _, [], _, _, _, _, _, h, _ => by simp at h
  | (off, n, p) :: vs, (ix, v) :: rs, cells, c, out, hc, h, hl, hr => by
    obtain ⟨hp, hv⟩ := hr 0 off n p ix v rfl rfl
    simp only [lay] at h
    split at h
    · rename_i hcond
      obtain ⟨c1, c2, c3⟩ := hcond
      obtain ⟨g1, g2⟩ := xE5 hv c3
      have hsz : off + v.cells.size ≤ c.size := by rw [hc.1, g1, c1]; exact c2
      obtain ⟨f1, f2⟩ := xN7 off v c hsz
      have hc' : xOL F μ hf w (cells.take off ++ xAY p ++ cells.drop (off + n)) (v.cells.zipIdx.foldl (fun cs (c, j) => cs.setIfInBounds (off + j) c) c) := by
        refine ⟨by rw [f1, hc.1]; simp; omega, fun i q hq => ?_⟩
        rw [xJP cells (xAY p) off n i c1 c2] at hq
        rw [f2]
        split at hq
        · rename_i hin
          rw [if_pos (by rw [g1, c1]; exact hin)]
          obtain ⟨x, hx, hs, _⟩ := g2 _ q hq
          exact ⟨x, hx, hs⟩
        · rename_i hin
          rw [if_neg (by rw [g1, c1]; exact hin)]
          exact hc.2 i q hq
      obtain ⟨c', e1, e2⟩ := xQ1 place vs rs _ _ out hc' h (by simpa using hl) (fun i off n p ix v a b => hr (i + 1) off n p ix v (by simpa using a) (by simpa using b))
      refine ⟨c', ?_, e2⟩
      rw [Instr.fill, hp]
      simp only
      rw [if_neg (by simp; exact ⟨by omega, hsz⟩)]
      exact e1
    · cases h
theorem xIn (hI : Inv Γ F μ hf w) (hT : TRel F μ hf w tf a) : ∀ (l : List (Nat × Operand)) (qs : List (Nat × VX)) (rs : List (Nat × Nat × VX)) (vs : List (Nat × Nat × PV)), cxps l = some qs → rs.length = qs.length →
    (∀ (i ix : Nat) (x : VX), qs[i]? = some (ix, x) → ∃ off n, rs[i]? = some (off, n, x)) → xGr tf rs = some vs →
    vs.length = l.length ∧ ∀ (i : Nat) (off n : Nat) (p : PV) (ix : Nat) (x : Operand), vs[i]? = some (off, n, p) → l[i]? = some (ix, x) → (∃ y, rs[i]? = some (off, n, y) ∧ qs[i]? = some (ix, y)) ∧ VRel F μ hf w p (a.eval x)
  | [], qs, rs, vs, h1, h2, h3, h4 => by
    cases h1
    have : rs = [] := List.eq_nil_of_length_eq_zero h2
    subst this
    cases h4
    exact ⟨rfl, by simp⟩
  | (ix, x) :: l, qs, rs, vs, h1, h2, h3, h4 => by
    obtain ⟨y, hy, h1⟩ := bind_some h1
    obtain ⟨ys, hys, rfl⟩ := map_some h1
    obtain ⟨off, n, hr0⟩ := h3 0 ix y rfl
    cases rs with
    | nil => simp at hr0
    | cons r0 rs =>
      simp at hr0
      subst hr0
      obtain ⟨p, hp, h4⟩ := bind_some h4
      obtain ⟨ps, hps, rfl⟩ := map_some h4
      obtain ⟨g1, g2⟩ := xIn hI hT l ys rs ps hys (by simpa using h2) (fun i ix x h => by have := h3 (i + 1) ix x (by simpa using h); simpa using this) hps
      refine ⟨by simp [g1], fun i off' n' p' ix' x' b1 b2 => ?_⟩
      cases i with
      | zero =>
        simp at b1 b2
        obtain ⟨rfl, rfl, rfl⟩ := b1
        obtain ⟨rfl, rfl⟩ := b2
        exact ⟨⟨y, rfl, rfl⟩, xAO hI hT hy hp⟩
      | succ i =>
        obtain ⟨⟨z, hz1, hz2⟩, hv⟩ := g2 i off' n' p' ix' x' (by simpa using b1) (by simpa using b2)
        exact ⟨⟨z, by simpa using hz1, by simpa using hz2⟩, hv⟩
theorem xLE (hI : Inv Γ F μ hf w) (hT : TRel F μ hf w tf a) {t : TypeId} {ps : Array (Nat × Operand)} {qs : List (Nat × VX)} {rs : List (Nat × Nat × VX)} {z : List PV} (ho : o.op = .build t ps) (hq : cxps ps.toList = some qs) (hz : xDh P t = some z)
    (place : Nat → Option (Nat × Nat)) (hlen : rs.length = qs.length) (hrs : ∀ (i ix : Nat) (x : VX), qs[i]? = some (ix, x) → ∃ off n, rs[i]? = some (off, n, x)) (hpl : ∀ (i ix off n : Nat) (x : VX), qs[i]? = some (ix, x) → rs[i]? = some (off, n, x) → place ix = some (off, n))
    (hrun : ∀ (vals : List (Nat × Value)) (zv : Value) (c' : Array Value), (zeroValue t).run P w = .ok zv w → Instr.fill place zv.cells vals = some c' → (Instr.build t vals.toArray).run P w = .ok (.agg c') w)
    (hr : vop lvl site tf hf (.build z rs) = some r) : Sim P Γ o a F μ hf w r := by
  obtain ⟨vs, hvs, hr⟩ := bind_some hr
  obtain ⟨cs, hcs, hr⟩ := bind_some hr
  obtain ⟨h1, h2, _⟩ := xAV hr
  obtain ⟨zv, hzr, g1, g2⟩ := xFr (F := F) (w := w) hz
  obtain ⟨k1, k2⟩ := xIn hI hT _ _ _ _ hq hlen hrs hvs
  have hc0 : xOL F μ hf w z zv.cells := ⟨g1, fun i p hp => by obtain ⟨x, hx, hc⟩ := g2 i p hp; exact ⟨x, hx, (SRel.of_closed hc.closed).2 hc⟩⟩
  obtain ⟨c', e1, e2⟩ := xQ1 place vs (ps.toList.map fun (i, x) => (i, a.eval x)) z zv.cells cs hc0 hcs (by simp [k1]) (fun i off n p ix v b1 b2 => by
    rw [List.getElem?_map] at b2
    obtain ⟨⟨ix', x⟩, hx, hxe⟩ := map_some b2
    simp only [Prod.mk.injEq] at hxe
    obtain ⟨rfl, rfl⟩ := hxe
    obtain ⟨⟨y, hy1, hy2⟩, hv⟩ := k2 i off n p ix' x b1 hx
    exact ⟨hpl i ix' off n y hy2 hy1, hv⟩)
  refine Sim.pure hI (rv := .agg c') ?_ h1 ?_
  · have := hrun _ zv c' hzr e1
    have he : (ps.map fun (i, x) => (i, a.eval x)) = (ps.toList.map fun (i, x) => (i, a.eval x)).toArray := by
      apply Array.ext'
      simp
    simp only [execOp, ho, he, this, Sem.run_bind, Result.andThen_ok, Sem.run_pure]
  · rw [h2]
    exact ⟨c', rfl, e2.1, fun i q x b1 b2 => by
      obtain ⟨y, hy, hs⟩ := e2.2 i q b1
      rw [hy] at b2
      cases b2
      exact hs⟩
theorem xEc {fs : Array Field} : ∀ (qs : List (Nat × VX)) (rs : List (Nat × Nat × VX)), xEB P fs qs = some rs → rs.length = qs.length ∧
    ∀ (i ix : Nat) (x : VX), qs[i]? = some (ix, x) → ∃ f n, fs[ix]? = some f ∧ xA5 P f.type = some n ∧ rs[i]? = some (f.offset, n, x)
  | [], rs, h => by cases h; exact ⟨rfl, by simp⟩
  | (ix, x) :: qs, rs, h => by
    obtain ⟨f, hf, h⟩ := bind_some h
    obtain ⟨n, hn, h⟩ := bind_some h
    obtain ⟨ss, hs, rfl⟩ := map_some h
    obtain ⟨h1, h2⟩ := xEc qs ss hs
    refine ⟨by simp [h1], fun i ix' x' hq => ?_⟩
    cases i with
    | zero =>
      simp at hq
      obtain ⟨rfl, rfl⟩ := hq
      exact ⟨f, n, hf, hn, rfl⟩
    | succ i =>
      obtain ⟨f', n', a1, a2, a3⟩ := h2 i ix' x' (by simpa using hq)
      exact ⟨f', n', a1, a2, by simpa using a3⟩
theorem xJe (P : Program) (w : World) : ∀ (fs : List Field), (∀ f ∈ fs, ∃ n, xA5 P f.type = some n) → (fs.mapM (m := Sem) fun f => do pure (f.offset, ← sizeOf f.type)).run P w = .ok (fs.map fun f => (f.offset, (xA5 P f.type).getD 0)) w
  | [], _ => rfl
  | f :: fs, h => by
    obtain ⟨n, hn⟩ := h f (by simp)
    have ih := xJe P w fs (fun g hg => h g (by simp [hg]))
    rw [List.mapM_cons]
    simp only [Sem.run_bind, xAU hn, Result.andThen_ok, Sem.run_pure, ih, List.map_cons, hn, Option.getD_some]
theorem xHw (hI : Inv Γ F μ hf w) (hT : TRel F μ hf w tf a) {t : TypeId} {ps : Array (Nat × Operand)} {qs : List (Nat × VX)} {rs : List (Nat × Nat × VX)} {z : List PV} {fs : Array Field} (ho : o.op = .build t ps) (hq : cxps ps.toList = some qs) (hz : xDh P t = some z)
    (ht : P.underlying t = some (.struct fs)) (hall : (fs.toList.all fun f => (xA5 P f.type).isSome) = true) (hrs : xEB P fs qs = some rs)
    (hr : vop lvl site tf hf (.build z rs) = some r) : Sim P Γ o a F μ hf w r := by
  obtain ⟨g1, g2⟩ := xEc qs rs hrs
  have hsz : ∀ f ∈ fs.toList, ∃ n, xA5 P f.type = some n := fun f hf => by
    rw [List.all_eq_true] at hall
    exact Option.isSome_iff_exists.1 (hall f hf)
  have hplaces : ∀ w, (fs.mapM (m := Sem) fun f => do pure (f.offset, ← sizeOf f.type)).run P w = .ok (fs.map fun f => (f.offset, (xA5 P f.type).getD 0)) w := by
    intro w
    rw [Array.mapM_eq_mapM_toList]
    simp only [Sem.run_map, xJe P w fs.toList hsz, Result.andThen_ok]
    congr 1
    apply Array.ext'
    simp
  refine xLE hI hT ho hq hz (fun ix => (fs.map fun f => (f.offset, (xA5 P f.type).getD 0))[ix]?) g1 (fun i ix x h => ?_) (fun i ix off n x h1 h2 => ?_) (fun vals zv c' h1 h2 => ?_) hr
  · obtain ⟨f, n, _, _, h3⟩ := g2 i ix x h
    exact ⟨_, _, h3⟩
  · obtain ⟨f, n', h3, h4, h5⟩ := g2 i ix x h1
    rw [h5] at h2
    simp only [Option.some.injEq, Prod.mk.injEq] at h2
    obtain ⟨rfl, rfl, _⟩ := h2
    simp [h3, h4]
  · simp only [Instr.build, Sem.run_bind, h1, Result.andThen_ok, run_underlying ht, hplaces, h2, Sem.run_pure]
theorem xHI {n : Nat} (qs : List (Nat × VX)) (i ix : Nat) (x : VX) (h : qs[i]? = some (ix, x)) : (xGU n qs)[i]? = some (ix * n, n, x) := by
  simp [xGU, h]
theorem xLD (hI : Inv Γ F μ hf w) (hT : TRel F μ hf w tf a) {t e : TypeId} {m n : Nat} {ps : Array (Nat × Operand)} {qs : List (Nat × VX)} {z : List PV} (ho : o.op = .build t ps) (hq : cxps ps.toList = some qs) (hz : xDh P t = some z)
    (ht : P.underlying t = some (.array m e)) (hn : xA5 P e = some n)
    (hr : vop lvl site tf hf (.build z (xGU n qs)) = some r) : Sim P Γ o a F μ hf w r := by
  refine xLE hI hT ho hq hz (fun i => some (i * n, n)) (by simp [xGU]) (fun i ix x h => ⟨_, _, xHI qs i ix x h⟩) (fun i ix off k x h1 h2 => ?_) (fun vals zv c' h1 h2 => ?_) hr
  · rw [xHI qs i ix x h1] at h2
    simp only [Option.some.injEq, Prod.mk.injEq] at h2
    obtain ⟨rfl, rfl, _⟩ := h2
    rfl
  · simp only [Instr.build, Sem.run_bind, h1, Result.andThen_ok, run_underlying ht, xAU hn, h2, Sem.run_pure]
def ElsR (F : Nat → Prop) (μ : Bid → Option Nat) (hf : HF) (w : World) (esz : Nat) (els : List (List PV)) (c : Array Value) : Prop :=
  els.length * esz ≤ c.size ∧ (∀ e ∈ els, e.length = esz) ∧ ∀ (i j : Nat) (el : List PV) (p : PV), els[i]? = some el → el[j]? = some p → ∃ x, c[i * esz + j]? = some x ∧ SRel F μ hf w p x
theorem xDy (i j n esz : Nat) (h1 : i < n) (h2 : j < esz) : i * esz + j < n * esz := by
  have : (i + 1) * esz ≤ n * esz := Nat.mul_le_mul_right _ h1
  rw [Nat.add_mul] at this
  omega
theorem xRO {i k j esz : Nat} (h1 : i * esz ≤ k * esz + j) (h2 : k * esz + j < i * esz + esz) (hj : j < esz) : k = i := by
  rcases Nat.lt_trichotomy k i with h | h | h
  · have : (k + 1) * esz ≤ i * esz := Nat.mul_le_mul_right _ h
    rw [Nat.add_mul] at this
    omega
  · exact h
  · have : (i + 1) * esz ≤ k * esz := Nat.mul_le_mul_right _ h
    rw [Nat.add_mul] at this
    omega
theorem xJg (esz : Nat) : ∀ (vs : List (Nat × PV)) (rs : List (Nat × Value)) (els : List (List PV)) (c : Array Value) (out : List (List PV)),
    ElsR F μ hf w esz els c → xNw esz els vs = some out → vs.length = rs.length →
    (∀ (i : Nat) (ix : Nat) (p : PV) (ix' : Nat) (v : Value), vs[i]? = some (ix, p) → rs[i]? = some (ix', v) → ix' = ix ∧ VRel F μ hf w p v) →
    ∃ c', Instr.fill (fun i => some (i * esz, esz)) c rs = some c' ∧ ElsR F μ hf w esz out c' ∧ out.length = els.length ∧ c'.size = c.size
  | [], [], els, c, out, hc, h, _, _ => by cases h; exact ⟨c, rfl, hc, rfl, rfl⟩
  | [], _ :: _, _, _, _, _, _, h, _ => by simp at h
  | _ :: _, [], _, _, _, _, _, h, _ => by simp at h
  | (ix, p) :: vs, (ix', v) :: rs, els, c, out, hc, h, hl, hr => by
    obtain ⟨rfl, hv⟩ := hr 0 ix p ix' v rfl rfl
    simp only [xNw] at h
    split at h
    · rename_i hcond
      obtain ⟨c1, c2, c3⟩ := hcond
      obtain ⟨g1, g2⟩ := xE5 hv c3
      have hle : ix' * esz + esz ≤ els.length * esz := by
        have : (ix' + 1) * esz ≤ els.length * esz := Nat.mul_le_mul_right _ c2
        rw [Nat.add_mul] at this
        omega
      have hsz : ix' * esz + v.cells.size ≤ c.size := by have := hc.1; omega
      obtain ⟨f1, f2⟩ := xN7 (ix' * esz) v c hsz
      have hc' : ElsR F μ hf w esz (els.set ix' (xAY p)) (v.cells.zipIdx.foldl (fun cs (c, j) => cs.setIfInBounds (ix' * esz + j) c) c) := by
        refine ⟨by rw [f1]; simpa using hc.1, fun e he => ?_, fun i j el q h1 h2 => ?_⟩
        · rcases List.mem_or_eq_of_mem_set he with h | h
          · exact hc.2.1 e h
          · rw [h]; exact c1
        · rw [f2]
          rw [List.getElem?_set] at h1
          split at h1
          · rename_i hi
            subst hi
            have h1 : some (xAY p) = some el := by simpa using h1
            simp only [Option.some.injEq] at h1
            subst h1
            have hj : j < esz := by have := (List.getElem?_eq_some_iff.1 h2).1; omega
            rw [if_pos (by omega)]
            obtain ⟨x, hx, hs, _⟩ := g2 j q h2
            exact ⟨x, by rw [Nat.add_sub_cancel_left]; exact hx, hs⟩
          · rename_i hi
            have hj : j < esz := by have := (List.getElem?_eq_some_iff.1 h2).1; have := hc.2.1 el (List.mem_of_getElem? h1); omega
            rw [if_neg (by intro hh; exact hi (xRO hh.1 (by omega) hj).symm)]
            exact hc.2.2 i j el q h1 h2
      obtain ⟨c', e1, e2, e3, e4⟩ := xJg esz vs rs _ _ out hc' h (by simpa using hl) (fun i ix p ix' v a b => hr (i + 1) ix p ix' v (by simpa using a) (by simpa using b))
      refine ⟨c', ?_, e2, by simpa using e3, by rw [e4, f1]⟩
      rw [Instr.fill]
      simp only
      rw [if_neg (by simp; exact ⟨by omega, hsz⟩)]
      exact e1
    · cases h
theorem xL1 (hI : Inv Γ F μ hf w) (hT : TRel F μ hf w tf a) : ∀ (l : List (Nat × Operand)) (qs : List (Nat × VX)) (vs : List (Nat × PV)), cxps l = some qs → xO1 tf qs = some vs →
    vs.length = l.length ∧ ∀ (i ix ix' : Nat) (p : PV) (x : Operand), vs[i]? = some (ix, p) → l[i]? = some (ix', x) → ix' = ix ∧ VRel F μ hf w p (a.eval x)
  | [], qs, vs, h1, h2 => by cases h1; cases h2; exact ⟨rfl, by simp⟩
  | (ix, x) :: l, qs, vs, h1, h2 => by
    obtain ⟨y, hy, h1⟩ := bind_some h1
    obtain ⟨ys, hys, rfl⟩ := map_some h1
    obtain ⟨p, hp, h2⟩ := bind_some h2
    obtain ⟨ps, hps, rfl⟩ := map_some h2
    obtain ⟨g1, g2⟩ := xL1 hI hT l ys ps hys hps
    refine ⟨by simp [g1], fun i ix1 ix2 p' x' b1 b2 => ?_⟩
    cases i with
    | zero =>
      simp at b1 b2
      obtain ⟨rfl, rfl⟩ := b1
      obtain ⟨rfl, rfl⟩ := b2
      exact ⟨rfl, xAO hI hT hy hp⟩
    | succ i => exact g2 i ix1 ix2 p' x' (by simpa using b1) (by simpa using b2)
theorem xEZ {z : List PV} {zv : Value} {esz : Nat} (hz : z.length = esz) (hpos : 0 < esz) (h1 : zv.cells.size = z.length) (h2 : ∀ (i : Nat) (p : PV), z[i]? = some p → ∃ x, zv.cells[i]? = some x ∧ CRel F w p x) (n m : Nat) (hnm : n ≤ m) :
    ElsR F μ hf w esz (List.replicate n z) ((Array.range (m * esz)).map (zv.cells[· % zv.cells.size]!)) := by
  refine ⟨by simpa using Nat.mul_le_mul_right _ hnm, fun e he => by rw [(List.mem_replicate.1 he).2, hz], fun i j el p a b => ?_⟩
  have hi : i < n := by simpa using (List.getElem?_eq_some_iff.1 a).1
  have hel : el = z := (List.mem_replicate.1 (List.mem_of_getElem? a)).2
  subst hel
  have hj : j < esz := by have := (List.getElem?_eq_some_iff.1 b).1; omega
  obtain ⟨x, hx, hc⟩ := h2 j p b
  have hlt : i * esz + j < m * esz := Nat.lt_of_lt_of_le (xDy i j n esz hi hj) (Nat.mul_le_mul_right _ hnm)
  refine ⟨x, ?_, (SRel.of_closed hc.closed).2 hc⟩
  have hmod : (i * esz + j) % zv.cells.size = j := by
    rw [h1, hz, Nat.add_comm, Nat.mul_comm, Nat.add_mul_mod_self_left, Nat.mod_eq_of_lt hj]
  rw [Array.getElem?_map, Array.getElem?_range, if_pos hlt]
  simp only [Option.map_some, hmod]
  rw [getElem!_def, hx]
theorem xEh {b : Bid} {B : Blk} {w w' : World} {n cap : Nat} (hbox : B.box = false) (hn : B.els.length = n) (hcap : n ≤ cap) (hrow : cap * B.esz = xA6 w' w.heap.size) :
    OwnRel (updM μ b (some w.heap.size)) (updH hf b B) w' b n 0 n (.slice (some ⟨w.heap.size, 0, none⟩) n cap) := by
  refine ⟨_, cap, rfl, fun _ => rfl, B, by simp [updH], hbox, by omega, fun _ => ⟨by omega, ?_⟩⟩
  simp only [updM, if_true]
  exact ⟨0, rfl, fun _ => by simp, hcap, by simpa using hrow, by omega⟩
theorem xOa (hI : Inv Γ F μ hf w) (hT : TRel F μ hf w tf a) {t e : TypeId} {m n : Nat} {ps : Array (Nat × Operand)} {qs : List (Nat × VX)} {z : List PV} (ho : o.op = .buildSlice t n ps) (ht : P.underlying t = some (.slice e)) (hm : xA5 P e = some m) (hz : xDh P e = some z) (hq : cxps ps.toList = some qs)
    (hle : n * m ≤ 16777216) (hm0 : 0 < m) (hzl : z.length = m) (hr : vop lvl site tf hf (.bslice m z n qs) = some r) : Sim P Γ o a F μ hf w r := by
  obtain ⟨vs, hvs, hr⟩ := bind_some hr
  obtain ⟨els, hels, hr⟩ := bind_some hr
  split at hr
  · rename_i hc
    obtain ⟨hc1, hc2, hc3⟩ := hc
    cases hr
    obtain ⟨zv, hzr, g1, g2⟩ := xFr (F := F) (w := w) hz
    obtain ⟨k1, k2⟩ := xL1 hI hT _ _ _ hq hvs
    have hz0 := xEZ (F := F) (μ := μ) (hf := hf) (w := w) hzl hm0 g1 g2 n n (Nat.le_refl _)
    obtain ⟨c', e1, e2, e3, e4⟩ := xJg m vs (ps.toList.map fun (i, x) => (i, a.eval x)) _ _ els hz0 hels (by simp [k1]) (fun i ix p ix' v b1 b2 => by
      rw [List.getElem?_map] at b2
      obtain ⟨⟨ix2, x⟩, hx, hxe⟩ := map_some b2
      simp only [Prod.mk.injEq] at hxe
      obtain ⟨rfl, rfl⟩ := hxe
      exact k2 i ix ix2 p x b1 hx)
    have hlen : els.length = n := by simpa using e3
    have hsz : c'.size = n * m := by rw [e4]; simp
    obtain ⟨hI', hK⟩ := hI.alloc (w1 := w) ⟨lvl, site⟩ hc1 ⟨false, false, m, els⟩ c' e rfl rfl rfl rfl rfl hm0 e2.2.1 (fun _ e he => (hc2 e he).2) (by simp) (by simp [hlen, hsz]) e2.2.2 (xOV (by simp [hlen, hsz]))
    refine ⟨.slice (some ⟨w.heap.size, 0, none⟩) n n, _, F, _, .inl ?_, hI', hK, ?_⟩
    · have he : (ps.map fun (i, x) => (i, a.eval x)).toList = (ps.toList.map fun (i, x) => (i, a.eval x)) := by simp
      simp only [execOp, ho, Instr.buildSlice, Sem.run_bind, run_underlying ht, Result.andThen_ok, xAU hm]
      rw [if_neg (by omega)]
      by_cases h0 : n * m = 0
      · have hz0 : ∀ f : Nat → Value, (Array.range 0).map f = #[] := fun f => by simp
        simp only [h0, hz0] at e1
        rw [if_pos h0]
        simp only [Sem.run_bind, Sem.run_pure, Result.andThen_ok, h0, hz0, he, e1]
        simp [newRow]
      · rw [if_neg h0]
        simp only [Sem.run_bind, hzr, Result.andThen_ok, Sem.run_pure, he, e1]
        simp [newRow]
    · refine xEh rfl hlen (Nat.le_refl _) ?_
      have : (w.alloc (.cells c' e)).heap[w.heap.size]? = some (.cells c' e (0, 0)) := by
        show (w.heap.push _)[w.heap.size]? = _
        simp
      show n * m = _
      unfold xA6
      rw [this]
      simp [hsz]
  · cases hr
end
end Go.V
set_option linter.unusedVariables false
set_option linter.unusedSimpArgs false
namespace Go.V
section
variable {P : Program} {Γ : Ctx} {o : Oper} {a : Act} {F : Nat → Prop} {μ : Bid → Option Nat} {hf : HF} {w : World} {r : Res} {tf : TF} {lvl site : Nat}
theorem xFp (hI : Inv Γ F μ hf w) {b : Bid} {B : Blk} (hb : hf b = some B) {k : Nat} (hm : μ b = some k) (h1 : B.box = true → B.els.length = 1) : ∃ c e fz, w.heap[k]? = some (.cells c e fz) ∧ (∀ o, o < c.size → ¬ (fz.1 ≤ o ∧ o < fz.2)) ∧ ElsR F μ hf w B.esz B.els c ∧ xA6 w k = c.size := by
  have h2 := (hI.blk b B hb).2.1
  obtain ⟨_, _, c, e, fz, hc, hfz, hl, hr⟩ := (hI.blk b B hb).cells hm h1
  exact ⟨c, e, fz, hc, hfz, ⟨hl, h2, hr⟩, by unfold xA6; rw [hc]⟩
theorem xG1 (c : Array Value) (vs : List Value) (off : Nat) (h : off + vs.length ≤ c.size) (k : Nat) :
    (c.toList.take off ++ vs ++ c.toList.drop (off + vs.length)).toArray[k]? = if off ≤ k ∧ k < off + vs.length then vs[k - off]? else c[k]? := by
  have hlt : (c.toList.take off).length = off := by simp; omega
  rw [List.getElem?_toArray]
  by_cases a : k < off
  · rw [if_neg (by omega), List.append_assoc, List.getElem?_append_left (by omega), List.getElem?_take, if_pos a]
    simp
  · by_cases b : k < off + vs.length
    · rw [if_pos ⟨by omega, b⟩, List.getElem?_append_left (by simp; omega), List.getElem?_append_right (by omega), hlt]
    · rw [if_neg (by omega), List.getElem?_append_right (by simp; omega), List.getElem?_drop]
      have : off + vs.length + (k - (c.toList.take off ++ vs).length) = k := by simp; omega
      rw [this]
      simp
theorem xED (c : Array Value) (vs : List Value) (off : Nat) (h : off + vs.length ≤ c.size) {j : Nat} {x : Value} (hj : off + vs.length ≤ j) (hx : (c.toList.take off ++ vs ++ c.toList.drop (off + vs.length)).toArray[j]? = some x) : c[j]? = some x := by
  rw [List.getElem?_toArray, List.getElem?_append_right (by simp; omega), List.getElem?_drop] at hx
  rw [← Array.getElem?_toList, ← hx]
  congr 1
  simp
  omega
theorem xCE (c : Array Value) (vs : List Value) (off : Nat) (h : off + vs.length ≤ c.size) : (c.toList.take off ++ vs ++ c.toList.drop (off + vs.length)).toArray.size = c.size := by
  simp; omega
theorem xPc (hI : Inv Γ F μ hf w) (hT : TRel F μ hf w tf a) {t : TypeId} {x y : Operand} {vx vy : VX} {n : Nat} (ho : o.op = .store t x y) (hn : xA5 P t = some n) (hx : cx x = some vx) (hy : cx y = some vy)
    (hr : vop lvl site tf hf (.store n vx vy) = some r) : Sim P Γ o a F μ hf w r := by
  obtain ⟨p, hp, hr1⟩ := bind_some hr
  clear hr
  have hv := xAO hI hT hx hp
  cases p <;> (try (cases hr1; done))
  rename_i b hw i j
  obtain ⟨q, hq, hr1⟩ := bind_some hr1
  have hvy := xAO hI hT hy hq
  obtain ⟨B, hb, hr1⟩ := bind_some hr1
  obtain ⟨e, he, hr1⟩ := bind_some hr1
  split at hr1
  · rename_i hc
    obtain ⟨c1, c2, c3, c4, c5⟩ := hc
    cases hr1
    have c5' : (xAY q).all xCO = true := by
      rw [List.all_eq_true] at c5 ⊢
      intro z hz
      have := c5 z hz
      unfold xDV at this
      split at this
      · exact this
      · cases z <;> first | rfl | (simp [closed] at this; done)
    obtain ⟨g1, g2⟩ := xE5 hvy c5'
    obtain ⟨_, B0, hb0, hle0, hptr⟩ := xEN hv
    rw [hb] at hb0
    cases hb0
    have hone := (hI.blk b B hb).one c1 hle0
    cases hm : μ b with
    | none =>
      have := (hI.blk b B hb).2.2.2.2
      rw [hm] at this
      rw [this.1] at he
      simp at he
    | some k =>
      have ha := hptr c1 k hm
      obtain ⟨c, ee, fz, hcc, hfz, hE, _⟩ := xFp hI hb hm hone
      have hi : i < B.els.length := (List.getElem?_eq_some_iff.1 he).1
      have hel : e.length = B.esz := hE.2.1 e (List.mem_of_getElem? he)
      have hbound : i * B.esz + j + n ≤ c.size := by
        have : (i + 1) * B.esz ≤ B.els.length * B.esz := Nat.mul_le_mul_right _ hi
        rw [Nat.add_mul] at this
        have := hE.1
        omega
      have hvsz : (a.eval y).cells.toList.length = n := by simp [g1, c3]
      have hst := xBX P k (i * B.esz + j) ee fz (a.eval y).cells.toList 0 c w hcc hfz (by rw [hvsz]; simpa using hbound) (fun v hv => by
        obtain ⟨m, hm1, hm2⟩ := List.getElem_of_mem hv
        have hq' : (xAY q)[m]? = some ((xAY q)[m]'(by rw [c3]; omega)) := List.getElem?_eq_getElem (by rw [c3]; omega)
        obtain ⟨x', hx', _, h1⟩ := g2 m _ hq'
        have : (a.eval y).cells.toList[m]? = some x' := by simpa using hx'
        rw [List.getElem?_eq_getElem hm1] at this
        simp only [Option.some.injEq] at this
        rw [← hm2, this]
        exact h1)
      simp only [Nat.add_zero] at hst
      have hsl : i * B.esz + j + (a.eval y).cells.toList.length ≤ c.size := by rw [hvsz]; exact hbound
      have hels : ∀ (i2 j2 : Nat) (el : List PV) (p : PV), (B.els.set i (e.take j ++ xAY q ++ e.drop (j + n)))[i2]? = some el → el[j2]? = some p →
          ∃ x, (c.toList.take (i * B.esz + j) ++ (a.eval y).cells.toList ++ c.toList.drop (i * B.esz + j + (a.eval y).cells.toList.length)).toArray[i2 * B.esz + j2]? = some x ∧ SRel F μ hf w p x := by
        intro i2 j2 el p h1 h2
        rw [xG1 c _ _ hsl]
        rw [List.getElem?_set] at h1
        split at h1
        · rename_i hii
          subst hii
          have h1 : e.take j ++ xAY q ++ e.drop (j + n) = el := by simpa [hi] using h1
          subst h1
          rw [xJP e (xAY q) j n j2 c3 c4] at h2
          split at h2
          · rename_i hin
            rw [if_pos (by rw [hvsz]; omega)]
            obtain ⟨x, hx1, hs, _⟩ := g2 _ p h2
            refine ⟨x, ?_, hs⟩
            have : i * B.esz + j2 - (i * B.esz + j) = j2 - j := by omega
            rw [this]
            simpa using hx1
          · rename_i hin
            rw [if_neg (by rw [hvsz]; omega)]
            exact hE.2.2 i j2 e p he h2
        · rename_i hii
          have hl2 : j2 < B.esz := by have := (List.getElem?_eq_some_iff.1 h2).1; have := hE.2.1 el (List.mem_of_getElem? h1); omega
          rw [if_neg (by
            intro hh
            rw [hvsz] at hh
            exact hii (xRO (i := i) (k := i2) (j := j2) (esz := B.esz) (by omega) (by omega) hl2).symm)]
          exact hE.2.2 i2 j2 el p h1 h2
      have hlen' : ∀ e' ∈ B.els.set i (e.take j ++ xAY q ++ e.drop (j + n)), e'.length = B.esz := by
        intro e' he'
        rcases List.mem_or_eq_of_mem_set he' with h | h
        · exact hE.2.1 e' h
        · rw [h, ← hel]; simp; omega
      have hcl' : B.box = false → ∀ e' ∈ B.els.set i (e.take j ++ xAY q ++ e.drop (j + n)), ∀ z ∈ e', closed z = true := by
        intro hbox e' he' z hz
        have hold := (hI.blk b B hb).2.2.1 (.inl hbox)
        rcases List.mem_or_eq_of_mem_set he' with h | h
        · exact hold e' h z hz
        · rw [h] at hz
          simp only [List.mem_append] at hz
          rcases hz with (hz | hz) | hz
          · exact hold e (List.mem_of_getElem? he) z (List.mem_of_mem_take hz)
          · rw [List.all_eq_true] at c5
            have := c5 z hz
            unfold xDV at this
            rw [if_neg (by rw [hbox]; simp)] at this
            exact this
          · exact hold e (List.mem_of_getElem? he) z (List.mem_of_mem_drop hz)
      obtain ⟨hI', hK⟩ := hI.write b B { B with els := B.els.set i (e.take j ++ xAY q ++ e.drop (j + n)) } hb k hm c _ ee fz hcc c2 c2 rfl rfl (by simp) (xCE c _ _ hsl) hlen' hcl' (fun h => by simpa using hone h) (by rw [xCE c _ _ hsl]; simpa using hE.1) hels (fun _ j x hj hx => xED c _ _ hsl (by rw [hvsz]; simp only [List.length_set] at hj; have h9 : (i + 1) * B.esz ≤ B.els.length * B.esz := Nat.mul_le_mul_right _ hi; rw [Nat.add_mul] at h9; omega) hx)
      refine ⟨undef, _, F, _, .inr ⟨?_, rfl⟩, hI', hK, trivial⟩
      simp only [execOp, ho, ha, Instr.storeAt, Instr.sureAddr, storeVar, Sem.run_bind, Sem.run_pure, Result.andThen_ok, xAU hn]
      rw [if_neg (by simp [g1, c3])]
      simp only [hst, Result.andThen_ok, Sem.run_pure]
  · cases hr1
theorem xK6 {esz n : Nat} {els : List (List PV)} {c : Array Value} (h : ElsR F μ hf w esz els c) (off : Nat) (hle : off + n ≤ els.length) :
    ElsR F μ hf w esz ((els.drop off).take n) (c.extract (off * esz) (off * esz + n * esz)) := by
  have hb : off * esz + n * esz ≤ c.size := by
    have : (off + n) * esz ≤ els.length * esz := Nat.mul_le_mul_right _ hle
    rw [Nat.add_mul] at this
    have := h.1
    omega
  refine ⟨?_, fun e he => h.2.1 e (List.mem_of_mem_drop (List.mem_of_mem_take he)), fun i j el p h1 h2 => ?_⟩
  · have : ((els.drop off).take n).length = n := by simp; omega
    rw [this]
    simp
    omega
  · rw [List.getElem?_take, List.getElem?_drop] at h1
    split at h1
    · rename_i hi
      obtain ⟨x, hx, hs⟩ := h.2.2 (off + i) j el p h1 h2
      have hj : j < esz := by have := (List.getElem?_eq_some_iff.1 h2).1; have := h.2.1 el (List.mem_of_getElem? h1); omega
      have := xDy i j n esz hi hj
      refine ⟨x, ?_, hs⟩
      rw [Array.getElem?_extract, if_pos (by omega)]
      rw [Nat.add_mul] at hx
      rw [← hx]
      congr 1
      omega
    · cases h1
theorem xDP (hI : Inv Γ F μ hf w) {p : PV} {v : Value} {rd : List Bid} {l : List (List PV)} {esz : Nat} (hv : VRel F μ hf w p v) (hc : xAf hf p = some (rd, l)) (hlen : ∀ e ∈ l, e.length = esz) (hpos : 0 < esz) (hcl : ∀ e ∈ l, ∀ c ∈ e, closed c = true) :
    Builtin.lenOf v = Sem.pure l.length ∧ ∀ n, n ≤ l.length → ∃ xs : Array Value, (∀ w' : World, w'.heap = w.heap → (Builtin.firstCells esz n v).run P w' = .ok xs w') ∧ xs.size = n * esz ∧
      ∀ (i j : Nat) (el : List PV) (q : PV), i < n → l[i]? = some el → el[j]? = some q → ∃ x, xs[i * esz + j]? = some x ∧ CRel F w q x := by
  have nilcase : ∀ ad, v = .slice ad 0 0 → l = [] → (ad = none ∨ ∃ a', ad = some a') → Builtin.lenOf v = Sem.pure l.length ∧ ∀ n, n ≤ l.length → ∃ xs : Array Value, (∀ w' : World, w'.heap = w.heap → (Builtin.firstCells esz n v).run P w' = .ok xs w') ∧ xs.size = n * esz ∧
      ∀ (i j : Nat) (el : List PV) (q : PV), i < n → l[i]? = some el → el[j]? = some q → ∃ x, xs[i * esz + j]? = some x ∧ CRel F w q x := by
    rintro ad rfl rfl _
    refine ⟨rfl, fun n hn => ⟨#[], fun w' _ => ?_, ?_, ?_⟩⟩
    · have : n = 0 := by simpa using hn
      subst this
      cases ad with
      | none => rfl
      | some a' => simp [Builtin.firstCells, loadCells, loadCellsFrom]
    · have : n = 0 := by simpa using hn
      simp [this]
    · intro i j el q hi
      have : n = 0 := by simpa using hn
      omega
  have emptycase : ∀ ad cap, v = .slice ad 0 cap → l = [] → Builtin.lenOf v = Sem.pure l.length ∧ ∀ n, n ≤ l.length → ∃ xs : Array Value, (∀ w' : World, w'.heap = w.heap → (Builtin.firstCells esz n v).run P w' = .ok xs w') ∧ xs.size = n * esz ∧
      ∀ (i j : Nat) (el : List PV) (q : PV), i < n → l[i]? = some el → el[j]? = some q → ∃ x, xs[i * esz + j]? = some x ∧ CRel F w q x := by
    rintro ad cap rfl rfl
    refine ⟨rfl, fun n hn => ⟨#[], fun w' _ => ?_, ?_, ?_⟩⟩
    · have : n = 0 := by simpa using hn
      subst this
      cases ad with
      | none => rfl
      | some a' => simp [Builtin.firstCells, loadCells, loadCellsFrom]
    · have : n = 0 := by simpa using hn
      simp [this]
    · intro i j el q hi
      have : n = 0 := by simpa using hn
      omega
  cases p <;> (try (cases hc; done))
  case nils =>
    cases hc
    exact emptycase _ _ (xCD hv) rfl
  case she =>
    cases hc
    obtain ⟨ad, cap, rfl⟩ := xFh hv
    exact emptycase _ _ rfl rfl
  case str s =>
    cases hc
    have he := xCG hv
    subst he
    have hsz : (⟨s.toArray⟩ : ByteArray).size = s.length := by simp [ByteArray.size]
    refine ⟨by simp [Builtin.lenOf, hsz]; rfl, fun n hn => ?_⟩
    have hn' : n ≤ s.length := by simpa using hn
    by_cases hs : s = []
    · subst hs
      have : n = 0 := by simpa using hn'
      subst this
      exact ⟨#[], fun w' _ => by simp [Builtin.firstCells], by simp, by intro i j el q hi; omega⟩
    · have hesz : esz = 1 := by
        cases s with
        | nil => exact (hs rfl).elim
        | cons c s => have := hlen [.int .u8 c.toNat] (by simp); simpa using this.symm
      subst hesz
      refine ⟨((s.take n).map fun b => (.int .u8 b.toNat : Value)).toArray, fun w' _ => ?_, by simp; omega, fun i j el q hi h1 h2 => ?_⟩
      · simp only [Builtin.firstCells, Sem.run_pure]
        congr 1
        apply Array.ext'
        simp [ByteArray.data_extract, List.extract_eq_take_drop]
      · rw [List.getElem?_map] at h1
        obtain ⟨c, hc, rfl⟩ := map_some h1
        cases j with
        | zero =>
          simp at h2
          subst h2
          refine ⟨.int .u8 c.toNat, ?_, CRel.int _ _⟩
          simp [hi, hc]
        | succ j => simp at h2
  case sh ex l' =>
    cases hc
    have hC := xD0 hv
    cases hC with
    | shn => exact emptycase _ _ rfl rfl
    | sh0 _ ad cap => exact emptycase _ _ rfl rfl
    | sh _ _ k off cap esz' g hF hcap hex hesz hlen' hcc hrr =>
      refine ⟨rfl, fun n hn => ?_⟩
      by_cases hl0 : l = []
      · subst hl0
        have : n = 0 := by simpa using hn
        subst this
        exact ⟨#[], fun w' _ => by simp [Builtin.firstCells, loadCells, loadCellsFrom], by simp, by intro i j el q hi; omega⟩
      · have hes : esz' = esz := by
          cases l with
          | nil => exact (hl0 rfl).elim
          | cons e0 l => rw [← hlen e0 (by simp), hlen' e0 (by simp)]
        subst hes
        refine ⟨((List.range (n * esz')).map fun m => g (m / esz') (m % esz')).toArray, fun w' hw' => ?_, by simp, fun i j el q hi h1 h2 => ?_⟩
        · simp only [Builtin.firstCells]
          rw [run_loadCells (P := P) w' ⟨k, off, none⟩ (n * esz') (fun m => g (m / esz') (m % esz')) (fun m hm => ?_)]
          rw [xBs]
          have hi : m / esz' < n := Nat.div_lt_of_lt_mul (by rw [Nat.mul_comm]; exact hm)
          have hj : m % esz' < esz' := Nat.mod_lt _ hpos
          have hli : m / esz' < l.length := by omega
          have he : l[m / esz']? = some l[m / esz'] := List.getElem?_eq_getElem hli
          have hel := hlen' _ (List.getElem_mem hli)
          have hq : (l[m / esz'])[m % esz']? = some ((l[m / esz'])[m % esz']'(by omega)) := List.getElem?_eq_getElem (by omega)
          have := hcc _ _ _ _ he hq
          rw [Nat.add_assoc, Nat.div_add_mod'] at this
          rw [World.cell?_of_block (w := w) (w' := w') (a := ⟨k, off + m, none⟩) (by rw [hw'])]
          exact this
        · have hj : j < esz' := by have := (List.getElem?_eq_some_iff.1 h2).1; have := hlen' el (List.mem_of_getElem? h1); omega
          have hm := xDy i j n esz' hi hj
          refine ⟨g i j, ?_, hrr i j el q h1 h2⟩
          have hd : (i * esz' + j) / esz' = i := by rw [Nat.mul_comm, Nat.mul_add_div hpos, Nat.div_eq_of_lt hj, Nat.add_zero]
          have hmo : (i * esz' + j) % esz' = j := by rw [Nat.mul_comm, Nat.mul_add_mod, Nat.mod_eq_of_lt hj]
          simp [hm, hd, hmo]
  case own b hw off len =>
    simp only [xAf] at hc
    obtain ⟨B, hb, hc⟩ := bind_some hc
    split at hc
    · rename_i hcc
      obtain ⟨c1, c2, c3⟩ := hcc
      cases hc
      obtain ⟨ad, cap, rfl, hsome, B0, hb0, hbox, hle, hcur⟩ := xBp hv
      rw [hb] at hb0
      cases hb0
      obtain ⟨g1, g2⟩ := hcur c1
      have hll : ((B.els.drop off).take len).length = len := by simp; omega
      cases hm : μ b with
      | none =>
        rw [hm] at g2
        obtain ⟨rfl, rfl, rfl, rfl⟩ := g2
        exact nilcase none rfl (by simp) (.inl rfl)
      | some k =>
        rw [hm] at g2
        obtain ⟨oo, rfl, g3, g4, g5, g6⟩ := g2
        obtain ⟨c, ee, fz, hcc, hfz, hE, hrow⟩ := xFp hI hb hm (fun h => by simp_all)
        refine ⟨by rw [hll]; rfl, fun n hn => ?_⟩
        rw [hll] at hn
        by_cases hn0 : n = 0
        · subst hn0
          exact ⟨#[], fun w' _ => by simp [Builtin.firstCells, loadCells, loadCellsFrom], by simp, by intro i j el q hi; omega⟩
        · have hoo := g3 (by omega)
          have hes : B.esz = esz := by
            have hlt : off < B.els.length := by omega
            have hmem : B.els[off] ∈ (B.els.drop off).take len := by
              rw [List.mem_iff_getElem?]
              exact ⟨0, by rw [List.getElem?_take, if_pos (by omega), List.getElem?_drop]; simp [hlt]⟩
            rw [← hE.2.1 _ (List.getElem_mem hlt), hlen _ hmem]
          have hT := xK6 hE off (n := n) (by omega)
          have hbnd : off * B.esz + n * B.esz ≤ c.size := by
            have : (off + n) * B.esz ≤ B.els.length * B.esz := Nat.mul_le_mul_right _ (by omega)
            rw [Nat.add_mul] at this
            have := hE.1
            omega
          refine ⟨c.extract (off * B.esz) (off * B.esz + n * B.esz), fun w' hw' => ?_, by rw [← hes]; simp; omega, fun i j el q hi h1 h2 => ?_⟩
          · simp only [Builtin.firstCells, hoo, ← hes]
            exact xET P w' k (off * B.esz) (n * B.esz) c ee fz (by rw [hw']; exact hcc) hbnd
          · have h1' : ((B.els.drop off).take n)[i]? = some el := by
              rw [List.getElem?_take] at h1 ⊢
              split at h1
              · rw [if_pos hi]; exact h1
              · cases h1
            obtain ⟨x, hx, hs⟩ := hT.2.2 i j el q h1' h2
            rw [← hes]
            exact ⟨x, hx, (SRel.of_closed (hcl el (List.mem_of_getElem? h1) q (List.mem_of_getElem? h2))).1 hs⟩
    · cases hc
end
end Go.V
