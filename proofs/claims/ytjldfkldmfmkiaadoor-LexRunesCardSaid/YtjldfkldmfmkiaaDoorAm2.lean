/- An abstract machine for the model's code, proved sound: what it computes, every run of the code comes to (part 2). -/
import Derived.Test.YtjldfkldmfmkiaaDoorAm1
import Derived.Test.YtjldfkldmfmkiaaDoorAm0
import Derived.Carry
import Derived.ChangeSame
import Derived.Recover
set_option linter.unusedVariables false
set_option linter.unusedSimpArgs false
set_option linter.unusedSectionVars false
section
namespace Go.AM.F
open Go Go.AM
noncomputable section
def noLocR (v : V) : Bool := V.rec (motive_1 := fun _ => Bool) (motive_2 := fun _ => Bool)
 true (fun _ _ => true) (fun _ => true) (fun _ => true) true (fun r _ => match r with | .loc _ _ => false | _ => true) (fun _ ih => ih) true
 (fun tok _ _ _ _ => match tok with | some (.loc _ _) => false | _ => true) (fun r _ _ _ _ _ => match r with | .loc _ _ => false | _ => true)
 (fun _ _ _ a b => a && b) true (fun _ _ ih => ih) true (fun _ ih => ih) (fun _ ih => ih) (fun _ => true) (fun r => match r with | .loc _ _ => false | _ => true) true true (fun _ _ a b => a && b) v
def noLocLR (l : List V) : Bool := List.rec (motive := fun _ => Bool) true (fun v _ ih => noLocR v && ih) l
def noRefsR (v : V) : Bool := V.rec (motive_1 := fun _ => Bool) (motive_2 := fun _ => Bool)
 true (fun _ _ => true) (fun _ => true) (fun _ => true) true (fun _ _ => false) (fun _ ih => ih) true
 (fun tok _ _ _ _ => tok.isNone) (fun _ _ _ _ _ _ => false)
 (fun _ _ _ a b => a && b) true (fun _ _ ih => ih) true (fun _ ih => ih) (fun _ ih => ih) (fun _ => true) (fun _ => false) true true (fun _ _ a b => a && b) v
def noRefsLR (l : List V) : Bool := List.rec (motive := fun _ => Bool) true (fun v _ ih => noRefsR v && ih) l
def plainR : V → Bool
 | .arr .. => false
 | .dead => false
 | v => noLocR v
def weakR : V → V
 | .agg cs => .agg (mapR V.weak cs)
 | v => v.weak
def weakBR : V → V
 | .agg cs => .agg (mapR V.weak1 cs)
 | v => v.weak1
def opd (ρ : Nat → V) : Operand → V
 | .tmp t => ρ t
 | .const v => absV v
 | .func f => .fn (.func f) [] []
 | .global _ => .dead
def rho (st : St) : Nat → V := aget .dead st.tm
def lcf (st : St) : Nat → Nat × Row := aget (0, .gone) st.loc
def getRow (st : St) : Ref → Option Row
 | .loc s g => bif Nat.beq (lcf st s).1 g then some (lcf st s).2 else none
 | .glob r => nthR st.hp.rows r
def lower : Option Nat → Nat → Option Nat
 | none, r => some r
 | some d, r => some (min d r)
def setRow (st : St) : Ref → Row → St
 | .loc s g, row => { st with loc := aset st.loc s (g, row) }
 | .glob r, row => { st with hp := { rows := setR st.hp.rows r row, dirty := lower st.hp.dirty r, mods := st.hp.mods + 1 } }
def addRow (st : St) (gl : Bool) (site : Nat) (row : Row) : Ref × St :=
 bif gl then (.glob (lenR st.hp.rows), { st with hp := { st.hp with rows := appR st.hp.rows [row] } })
 else (.loc site ((lcf st site).1 + 1), { st with loc := aset st.loc site ((lcf st site).1 + 1, row) })
def toNatLt : Int → Nat → Option Nat
 | .ofNat k, n => bif Nat.blt k n then some k else none
 | _, _ => none
def toNatLe : Int → Nat → Option Nat
 | .ofNat k, n => bif Nat.ble k n then some k else none
 | _, _ => none
def intCmp (op : BinOp) (a b : Int) : Option V :=
 match op with
 | .eql => some (.bool (eqI a b))
 | .neq => some (.bool (!eqI a b))
 | .lss => some (.bool (ltI a b))
 | .leq => some (.bool (!ltI b a))
 | .gtr => some (.bool (ltI b a))
 | .geq => some (.bool (!ltI a b))
 | _ => none
def binInt (op : BinOp) (k : IntKind) (a b : Int) : Option V :=
 match op with
 | .add => some (.int k (wrapI k (Int.add a b)))
 | .sub => some (.int k (wrapI k (Int.sub a b)))
 | .mul => some (.int k (wrapI k (Int.mul a b)))
 | .quo => if b = 0 then none else some (.int k (wrapI k (a.tdiv b)))
 | .rem => if b = 0 then none else some (.int k (a.tmod b))
 | .and => some (.int k (wrapI k (BitVec.ofInt k.bits a &&& BitVec.ofInt k.bits b).toNat))
 | .or => some (.int k (wrapI k (BitVec.ofInt k.bits a ||| BitVec.ofInt k.bits b).toNat))
 | .xor => some (.int k (wrapI k (BitVec.ofInt k.bits a ^^^ BitVec.ofInt k.bits b).toNat))
 | .andNot => some (.int k (wrapI k (BitVec.ofInt k.bits a &&& ~~~ (BitVec.ofInt k.bits b)).toNat))
 | op => intCmp op a b
def strOp (op : BinOp) (a b : Str) : Option V :=
 match op with
 | .eql => some (.bool (a.same b))
 | .neq => some (.bool (!a.same b))
 | .lss => some (.bool (Op.bytesLess (bl a.n a.v) (bl b.n b.v)))
 | .add => bif Nat.ble (Nat.add a.n b.n) 4611686018427387904 then some (.str (a.app b)) else none
 | _ => none
def shiftV (op : BinOp) (k : IntKind) (a b : Int) : Option V :=
 if b < 0 then none else
 match op with
 | .shl => some (.int k (wrapI k (a * 2 ^ (min b.toNat k.bits))))
 | .shr => some (.int k (a.fdiv (2 ^ (min b.toNat k.bits))))
 | _ => none
def isEq (op : BinOp) (b : Bool) : Option V :=
 match op with
 | .eql => some (.bool b)
 | .neq => some (.bool !b)
 | _ => none
def binV (op : BinOp) (x y : V) : Option V :=
 match x, y with
 | .int k a, .int k' b =>
  match op with
  | .shl => shiftV .shl k a b
  | .shr => shiftV .shr k a b
  | op => if k = k' then binInt op k a b else none
 | .str a, .str b => strOp op a b
 | _, _ => none
def isConst : Operand → Bool
 | .const _ => true
 | _ => false
def eqV (op : BinOp) (d : Option TypeDesc) (cn : Bool) (x y : V) : Option V :=
 match d, x, y with
 | some .bool, .bool a, .bool b => isEq op (a == b)
 | some (.slice _), .nils, .nils => isEq op true
 | some (.slice _), .slice _ _ _ _, .nils => isEq op false
 | some (.slice _), .arr .., .nils => isEq op false
 | some (.interface _), .nili, .nili => bif cn then isEq op true else none
 | some (.interface _), .iface _ _, .nili => isEq op false
 | some (.interface _), .nili, .iface _ _ => isEq op false
 | some (.pointer _), .nilp, .nilp => isEq op true
 | some (.pointer _), .ptr _ _, .nilp => isEq op false
 | some (.pointer _), .nilp, .ptr _ _ => isEq op false
 | _, _, _ => none
def unV (op : UnOp) (x : V) : Option V :=
 match op, x with
 | .not, .bool b => some (.bool !b)
 | .neg, .int k n => some (.int k (wrapI k (0 - n)))
 | .xor, .int k n => binInt .xor k (if k.signed then -1 else k.max) n
 | _, _ => none
section
variable (P : Program) (C : Cfg)
def szOf (t : TypeId) : Option Nat := (P.info? t).map (·.size)
def aggT (t : TypeId) : Option Bool := match P.underlying t with
 | some (.struct _) => some true
 | some (.array _ _) => some true
 | some _ => some false
 | none => none
def zeroV (t : TypeId) : Option V := match P.info? t with
 | some i => i.zero.map absV
 | none => none
def elemT (t : TypeId) : Option TypeId := match P.underlying t with
 | some (.slice e) => some e
 | _ => none
def fieldOf (t : TypeId) (i : Nat) : Option Field := match P.underlying t with
 | some (.struct fs) => fs[i]?
 | _ => none
def byteE (e : TypeId) : Option Nat := (P.info? e).bind fun i => match i.zero with
 | some z => bif Nat.beq i.bytes 0 || !Nat.beq z.cells.size i.size then none else some i.bytes
 | none => none
def lenIs (t : TypeId) (n : Nat) : Bool := match szOf P t with
 | some m => Nat.beq n m
 | none => false
def layE (e : TypeId) : Option (Nat × Bool) :=
 match szOf P e, aggT P e with
 | some (n + 1), some g => some (n + 1, g)
 | _, _ => none
def partV (t : TypeId) (cs : List V) (off : Nat) : Option V :=
 match layE P t with
 | some (n, true) => bif Nat.ble (off + n) (lenR cs) then some (.agg (takeR (dropR cs off) n)) else none
 | some (_, false) => nthR cs off
 | none => none
def setAt (cs : List V) (off : Nat) (vs : List V) : Option (List V) :=
 bif Nat.ble (Nat.add off (lenR vs)) (lenR cs) then some (atR off (overR vs) cs) else none
def chunk (sz : Nat) (ag : Bool) (n : Nat) (cs : List V) : List V :=
 Nat.rec (motive := fun _ => List V → List V) (fun _ => []) (fun _ ih cs => (bif ag then V.agg (takeR cs sz) else (List.rec (motive := fun _ => V) .dead (fun x _ _ => x) cs).unagg) :: ih (dropR cs sz)) n cs
def sliceImm (tok : Option Ref) (full : Bool) (sz : Nat) (l : List V) (lo hi : Option Int) (mx : Option Int) : Option V :=
 match toNatLe (hi.getD (lenR l)) (lenR l) with
 | none => none
 | some h => match toNatLe (lo.getD 0) h with
  | none => none
  | some k => match mx with
   | none =>
    bif Nat.beq h (lenR l) then
     (bif Nat.beq k 0 then some (.slice tok full sz l) else some (.slice none full sz (dropR l k)))
    else some (.slice none false sz (dropR (takeR l h) k))
   | some m => match toNatLe m (lenR l), hi with
    | some m, some _ => bif Nat.beq m h then some (.slice none true sz (dropR (takeR l h) k)) else none
    | _, _ => none
def optInt (ρ : Nat → V) : Option Operand → Option (Option Int)
 | none => some none
 | some x => match opd ρ x with
  | .int _ n => some (some n)
  | _ => none
def sliceStr (s : Str) (lo hi : Option Int) : Option V :=
 match toNatLe (hi.getD s.n) s.n with
 | none => none
 | some h => match toNatLe (lo.getD 0) h with
  | none => none
  | some k => some (.str (s.cut k h))
def sliceArr (r : Ref) (off len : Nat) (lim : Option Nat) (sz : Nat) (ag : Bool) (lo hi : Option Int) (mx : Option Int) : Option V :=
 match toNatLe (hi.getD len) len with
 | none => none
 | some h => match toNatLe (lo.getD 0) h with
  | none => none
  | some k => match mx with
   | none => (match lim with
    | none => bif Nat.beq k h && !Nat.beq k 0 then some (.slice none false sz []) else some (.arr r (off + k * sz) (h - k) none sz ag)
    | some c => bif Nat.beq k c && !Nat.beq k 0 then some (.slice none true sz []) else some (.arr r (off + k * sz) (h - k) (some (c - k)) sz ag))
   | some m => match toNatLe m len, hi with
    | some m, some _ => bif Nat.ble h m then
      (bif Nat.beq k m && !Nat.beq k 0 then some (.slice none true sz []) else some (.arr r (off + k * sz) (h - k) (some (m - k)) sz ag)) else none
    | _, _ => none
def sliceV (t : TypeId) (x : V) (lo hi mx : Option Int) : Option V :=
 match x with
 | .str s => match mx, P.underlying t with
  | none, some .string => sliceStr s lo hi
  | _, _ => none
 | .nils => match elemT P t with
  | some e => (match layE P e with
   | some _ => (match toNatLe (hi.getD (0 : Nat)) 0, toNatLe (lo.getD 0) 0, mx with
    | some _, some _, none => some .nils
    | some _, some _, some m => (match toNatLe m 0, hi with
     | some _, some _ => some .nils
     | _, _ => none)
    | _, _, _ => none)
   | none => none)
  | none => none
 | .slice tok full sz l => match elemT P t with
  | some e => (match layE P e with
   | some (n, _) => bif Nat.beq n sz then sliceImm tok full sz l lo hi mx else none
   | none => none)
  | none => none
 | .arr r off len lim sz ag => match elemT P t with
  | some e => (match layE P e with
   | some (n, _) => bif Nat.beq n sz then sliceArr r off len lim sz ag lo hi mx else none
   | none => none)
  | none => none
 | _ => none
def indexAddrV (t : TypeId) (x : V) (i : Int) : Option V :=
 match elemT P t with
 | none => none
 | some e => match layE P e with
  | none => none
  | some (n, _) => match x with
   | .slice _ _ sz l => bif Nat.beq n sz then (match toNatLt i (lenR l) with
    | none => none
    | some k => match nthR l k with
     | some v => some (.iptr v.cells)
     | none => none) else none
   | .arr r off len _ sz _ => bif Nat.beq n sz then
     (match toNatLt i len with
     | none => none
     | some k => some (.ptr r (off + k * sz)))
    else none
   | _ => none
def convV (s d : TypeId) (x : V) : Option V :=
 match P.underlying s, P.underlying d, x with
 | some (.int _), some (.int k), .int _ n => some (.int k (wrapI k n))
 | some .string, some .string, .str s => some (.str s)
 | some (.int _), some .string, .int _ n => some (.str (Str.of (Utf8.encode n)))
 | _, _, _ => none
def fillP (t : TypeId) (ρ : Nat → V) (ps : List (Nat × Operand)) (cs : List V) : Option (List V) :=
 List.rec (motive := fun _ => List V → Option (List V)) (fun cs => some cs) (fun p _ ih cs =>
  match fieldOf P t p.1 with
  | none => none
  | some f =>
   let v := weakBR (opd ρ p.2)
   bif plainR v && (bif Nat.beq (lenR v.cells) ((szOf P f.type).getD 0) then true else false) then
    match setAt cs f.offset v.cells with
    | some cs' => ih cs'
    | none => none
   else none) ps cs
def fillE (sz : Nat) (ρ : Nat → V) (ps : List (Nat × Operand)) (l : List V) : Option (List V) :=
 List.rec (motive := fun _ => List V → Option (List V)) (fun l => some l) (fun p _ ih l =>
  let v := weakR (opd ρ p.2)
  bif v.live && noRefsR v && Nat.beq (lenR v.cells) sz && Nat.blt p.1 (lenR l) then ih (setR l p.1 v) else none) ps l
def pureV (ρ : Nat → V) : Op → Option V
 | .move x => some (opd ρ x)
 | .assign x => some (opd ρ x)
 | .pick c a b => match opd ρ c with
  | .bool true => some (opd ρ a)
  | .bool false => some (opd ρ b)
  | _ => none
 | .nilCheck x => match opd ρ x with
  | .ptr r o => some (.ptr r o)
  | .iptr cs => some (.iptr cs)
  | _ => none
 | .binOp op t x y _ => match binV op (opd ρ x) (opd ρ y) with
  | some v => some v
  | none => orA (eqV op (P.underlying t) (isConst x || isConst y) (opd ρ x) (opd ρ y)) fun _ => eqA P op t (opd ρ x) (opd ρ y)
 | .unOp op _ x => unV op (opd ρ x)
 | .convert s d x => convV P s d (opd ρ x)
 | .slice t x lo hi mx => match optInt ρ lo, optInt ρ hi, optInt ρ mx with
  | some lo, some hi, some mx => sliceV P t (opd ρ x) lo hi mx
  | _, _, _ => none
 | .fieldAddr t x i => match fieldOf P t i with
  | none => none
  | some f => match layE P f.type with
   | none => none
   | some _ => match opd ρ x with
    | .ptr r off => some (.ptr r (off + f.offset))
    | .iptr cs => some (.iptr (dropR cs f.offset))
    | _ => none
 | .field t x i => match fieldOf P t i, opd ρ x with
  | some f, .agg cs => partV P f.type cs f.offset
  | _, _ => none
 | .indexAddr t x i => match opd ρ i with
  | .int _ n => indexAddrV P t (opd ρ x) n
  | _ => none
 | .index t x i => match opd ρ x, opd ρ i, P.underlying t with
  | .str s, .int _ n, some .string => (match toNatLt n s.n with
   | none => none
   | some k => some (.int .u8 (.ofNat (s.get k))))
  | _, _, _ => none
 | .extract x i => match opd ρ x with
  | .tuple vs => nthR vs i
  | _ => none
 | .makeFunc f a b => some (.fn f (mapR (opd ρ) a.toList) (mapR (opd ρ) b.toList))
 | .makeInterface t x => match P.underlying t with
  | some (.interface _) => none
  | some _ => some (.iface t (opd ρ x))
  | none => none
 | .build t ps => match P.underlying t, zeroV P t with
  | some (.struct fs), some z => bif z.live && fs.all (fun f => (P.info? f.type).isSome) then (fillP P t ρ ps.toList z.cells).map .agg else none
  | _, _ => none
 | .buildSlice t len ps => match elemT P t with
  | none => none
  | some e => match layE P e, zeroV P e with
   | some (n, _), some z =>
    bif !C.isArr t && Nat.ble (len * n) 16777216 && noRefsR z && z.live && Nat.beq (lenR z.cells) n then
     (fillE n ρ ps.toList (repR len z)).map (.slice none true n)
    else none
   | _, _ => none
 | .call c => match c.callee, c.args.toList with
  | .builtin .len, [x] => (match c.argTypes[0]? with
   | none => none
   | some t => match opd ρ x, P.underlying t with
    | .nils, some (.slice _) => some (.int .i64 0)
    | .slice _ _ _ l, some (.slice _) => some (.int .i64 (lenR l))
    | .arr _ _ n _ _ _, some (.slice _) => some (.int .i64 n)
    | .str s, some .string => some (.int .i64 s.n)
    | _, _ => none)
  | .builtin .min, [x, y] => (match opd ρ x, opd ρ y with
   | .int k a, .int _ b => some (.int k (if b < a then b else a))
   | _, _ => none)
  | .builtin .max, [x, y] => (match opd ρ x, opd ρ y with
   | .int k a, .int _ b => some (.int k (if b > a then b else a))
   | _, _ => none)
  | _, _ => none
 | _ => none
def locV (gl : Nat → Bool) (ρ : Nat → V) (lc : Nat → Nat × Row) (o : Oper) : Option (V × Option (Nat × Nat × Row)) :=
 match o.op with
 | .load t x => (match opd ρ x with
  | .ptr (.loc s g) off => (match lc s with
   | (g', .cells _ cs) => bif Nat.beq g g' then (partV P t cs off).map (·, none) else none
   | _ => none)
  | .iptr cs => (partV P t cs 0).map (·, none)
  | _ => none)
 | .store t a x => (match opd ρ a with
  | .ptr (.loc s g) off => (match lc s with
   | (g', .cells false cs) => bif Nat.beq g g' && allR V.cellOk (opd ρ x).cells && lenIs P t (lenR (opd ρ x).cells) then
     (match setAt cs off (opd ρ x).cells with
     | some cs' => some (.tuple [], some (s, g, .cells false cs'))
     | none => none)
    else none
   | _ => none)
  | _ => none)
 | .alloc t => (match o.dst with
  | none => none
  | some d => bif gl d then none else match zeroV P t, szOf P t with
   | some z, some n => bif z.live && Nat.beq (lenR z.cells) n then
     some (.ptr (.loc d ((lc d).1 + 1)) 0, some (d, (lc d).1 + 1, .cells false z.cells))
    else none
   | _, _ => none)
 | .box t x => bif C.isArr t then (bif (opd ρ x).weakA.live then some (.iptr (opd ρ x).weakA.cells, none) else none) else (match o.dst with
  | none => none
  | some d => bif gl d || !(opd ρ x).live then none else
    some (.ptr (.loc d ((lc d).1 + 1)) 0, some (d, (lc d).1 + 1, .cells false (opd ρ x).cells)))
 | .range t x => (match P.underlying t, opd ρ x, o.dst with
  | some .string, .str s, some d => bif gl d then none else
    some (.ptr (.loc d ((lc d).1 + 1)) 0, some (d, (lc d).1 + 1, .iter s 0))
  | _, _, _ => none)
 | op => (pureV P C ρ op).map (·, none)
def applyL (st : St) (u : Option (Nat × Nat × Row)) : St := match u with
 | none => st
 | some (s, g, row) => { st with loc := aset st.loc s (g, row) }
def itemsOf (st : St) : V → Option (List V)
 | .nils => some []
 | .slice _ _ _ l => some l
 | .arr r off len _ sz ag => match getRow st r with
  | some (.cells _ cs) => bif Nat.ble (off + len * sz) (lenR cs) && (ag || Nat.beq sz 1) then some (chunk sz ag len (dropR cs off)) else none
  | _ => none
 | .str s => some (mapR (fun b : UInt8 => V.int .u8 b.toNat) (bl s.n s.v))
 | _ => none
def freeze (st : St) : V → Option (V × St)
 | .arr r off len lim sz ag => match getRow st r with
  | some (.cells _ cs) => match itemsOf st (.arr r off len lim sz ag) with
   | some l => bif noRefsLR l then some (.slice none false sz l, setRow st r (.cells true cs)) else none
   | none => none
  | _ => none
 | _ => none
def isLoc : Ref → Bool
 | .loc _ _ => true
 | .glob _ => false
def exp1 (fz : Bool) (st : St) (v : V) : Option (V × St) :=
 match v with
 | .arr r off len lim sz ag => bif fz || isLoc r then freeze st (.arr r off len lim sz ag) else some (.arr r off len lim sz ag, st)
 | .slice tok f sz l => match tok with
  | some (.glob r) => bif fz then some (.slice none f sz l, st) else some (.slice (some (.glob r)) f sz l, st)
  | _ => some (.slice none f sz l, st)
 | v => bif v.live && noLocR v then some (v, st) else none
def expL (fz : Bool) (st : St) (l : List V) : Option (List V × St) :=
 List.rec (motive := fun _ => St → Option (List V × St)) (fun st => some ([], st)) (fun v _ ih st =>
  match exp1 fz st v with
  | none => none
  | some (v', st') => match ih st' with
   | none => none
   | some (l', st'') => some (v' :: l', st'')) l st
def exp (fz : Bool) (st : St) (v : V) : Option (V × St) :=
 match v with
 | .agg cs => (expL fz st cs).map fun (l, st) => (.agg l, st)
 | v => exp1 fz st v
def exps (fz : Bool) (st : St) (l : List V) : Option (List V × St) :=
 List.rec (motive := fun _ => St → Option (List V × St)) (fun st => some ([], st)) (fun v _ ih st =>
  match exp fz st v with
  | none => none
  | some (v', st') => match ih st' with
   | none => none
   | some (l', st'') => some (v' :: l', st'')) l st
def flat (l : List V) : List V := List.rec (motive := fun _ => List V) [] (fun v _ ih => appR v.cells ih) l
def growArr (gl : Nat → Bool) (st : St) (d : Nat) (cs : List V) (len sz : Nat) (ag : Bool) : Option Res :=
 bif gl d && !noLocLR cs then none else
 let (r, st') := addRow st (gl d) d (.cells false cs)
 some (.val (.arr r 0 len none sz ag) st')
def growImm (gl : Nat → Bool) (st : St) (d : Nat) (sz : Nat) (l : List V) : Option Res :=
 let (r, st') := addRow st (gl d) d .tok
 some (.val (.slice (some r) false sz l) st')
def maxBytes : Nat := 70368744177664
def appendV (gl : Nat → Bool) (st : St) (d : Nat) (t : TypeId) (x y : V) : Option Res :=
 match elemT P t with
 | none => none
 | some e => match layE P e, byteE P e, itemsOf st y with
  | some (sz, ag), some bytes, some ys =>
   bif allR (fun v : V => Nat.beq (lenR v.cells) sz && allR V.cellOk v.cells) ys then
    match x with
    | .nils => (match ys with
     | [] => some (.val .nils st)
     | _ => bif Nat.ble ((lenR ys) * bytes) maxBytes then
       (bif C.isArr t then growArr gl st d (flat ys) (lenR ys) sz ag
        else bif noRefsLR ys then growImm gl st d sz ys else none)
      else none)
    | .slice tok full sz' l => bif Nat.beq sz sz' then
     (match ys with
     | [] => some (.val (.slice tok full sz' l) st)
     | _ => bif Nat.ble ((Nat.add (lenR l) (lenR ys)) * bytes) maxBytes then
       (bif C.isArr t then
        (bif full then growArr gl st d (flat (appR l ys)) (Nat.add (lenR l) (lenR ys)) sz ag else none)
        else bif noRefsLR ys then
        (bif full then growImm gl st d sz (appR l ys) else
         match tok with
         | some r => (match getRow st r with
          | some .tok => growImm gl (setRow st r .gone) d sz (appR l ys)
          | _ => none)
         | none => none)
        else none)
      else none) else none
    | .arr r off len lim sz' ag' =>
     bif Nat.beq sz sz' && (ag == ag') then
      (match getRow st r with
      | some (.cells frz cs) =>
       bif Nat.ble (off + len * sz) (lenR cs) && Nat.ble ((len + (lenR ys)) * bytes) maxBytes then
        (match ys with
        | [] => some (.val (.arr r off len lim sz' ag') st)
        | _ => bif !isLoc r && !noLocLR (flat ys) then none else
         (match lim with
         | some c =>
          bif Nat.ble (len + (lenR ys)) c then
           (bif frz then none else match setAt cs (off + len * sz) (flat ys) with
           | some cs' => some (.val (.arr r off (len + (lenR ys)) lim sz' ag') (setRow st r (.cells false cs')))
           | none => none)
          else growArr gl st d (appR (takeR (dropR cs off) (Nat.mul len sz)) (flat ys)) (len + (lenR ys)) sz ag
         | none =>
          bif frz then none else
          bif Nat.ble (off + (len + (lenR ys)) * sz) (lenR cs) then
           (match setAt cs (off + len * sz) (flat ys) with
           | some cs' => some (.val (.arr r off (len + (lenR ys)) lim sz' ag') (setRow st r (.cells false cs')))
           | none => none)
          else bif Nat.beq off 0 && Nat.beq (len * sz) (lenR cs) then
           growArr gl (setRow st r .gone) d (appR cs (flat ys)) (len + (lenR ys)) sz ag
          else none))
       else none
      | _ => none)
     else none
    | _ => none
   else none
  | _, _, _ => none
def makeV (gl : Nat → Bool) (st : St) (d : Nat) (t : TypeId) (len cap : V) : Option Res :=
 match elemT P t, len, cap with
 | some e, .int _ (.ofNat n), .int _ (.ofNat c) =>
  (match layE P e, (P.info? e).map (·.bytes), zeroV P e with
  | some (sz, ag), some bytes, some z =>
   bif Nat.ble n c && Nat.ble (c * bytes) maxBytes && Nat.ble c maxBytes && Nat.beq (lenR z.cells) sz && z.live then
    let (r, st') := addRow st (gl d) d (.cells false (flat (repR c z)))
    some (.val (.arr r 0 n (some c) sz ag) st')
   else none
  | _, _, _ => none)
 | _, _, _ => none
def copyV (st : St) (t : TypeId) (x y : V) : Option Res :=
 match elemT P t with
 | none => none
 | some e => match layE P e, itemsOf st y, x with
  | some (sz, _), some ys, .arr r off len _ sz' _ =>
   bif Nat.beq sz sz' && (isLoc r || noLocLR (flat ys)) && allR (fun v : V => Nat.beq (lenR v.cells) sz && allR V.cellOk v.cells) ys then
    (match getRow st r with
    | some (.cells false cs) =>
     (match setAt cs off (flat (takeR ys len)) with
     | some cs' => bif Nat.ble (off + len * sz) (lenR cs) then
       some (.val (.int .i64 (min (lenR ys) len : Nat)) (setRow st r (.cells false cs')))
      else none
     | none => none)
    | _ => none)
   else none
  | _, _, _ => none
def clearV (st : St) (t : TypeId) (x : V) : Option Res :=
 match elemT P t with
 | none => none
 | some e => match layE P e, zeroV P e, x with
  | some (sz, _), some z, .arr r off len _ sz' _ =>
   bif Nat.beq sz sz' && Nat.blt 0 len && z.live && Nat.beq (lenR z.cells) sz && z.cells.all V.cellOk && (isLoc r || noLocR z) then
    (match getRow st r with
    | some (.cells false cs) =>
     (match setAt cs off (flat (repR len z)) with
     | some cs' => some (.val (.tuple []) (setRow st r (.cells false cs')))
     | none => none)
    | _ => none)
   else none
  | _, _, _ => none
def bytesOf (l : List V) : Option (List UInt8) :=
 List.rec (motive := fun _ => Option (List UInt8)) (some []) (fun v _ ih => match v with
  | .int .u8 n => ih.map (UInt8.ofNat n.toNat :: ·)
  | _ => none) l
def convS (gl : Nat → Bool) (st : St) (d : Nat) (s t : TypeId) (x : V) : Option Res :=
 match P.underlying s, P.underlying t with
 | some (.slice e), some .string =>
  (match P.underlying e with
  | some (.int .u8) => (match itemsOf st x with
   | some l => (match x with
    | .str _ => none
    | _ => (bytesOf l).map fun b => .val (.str (Str.ofL b)) st)
   | none => none)
  | _ => none)
 | some .string, some (.slice e) =>
  (match P.underlying e, x with
  | some (.int .u8), .str s => bif C.isArr t && Nat.ble s.n maxBytes then
    let (r, st') := addRow st (gl d) d (.cells false (mapR (fun b : UInt8 => V.int .u8 b.toNat) (bl s.n s.v)))
    some (.val (.arr r 0 s.n none 1 false) st')
   else none
  | _, _ => none)
 | _, _ => none
def notInt (t : Option TypeId) : Bool := match t.bind P.underlying with
 | some (.slice _) => true
 | some .string => true
 | _ => false
def opds (ρ : Nat → V) (l : List Operand) : List V := mapR (opd ρ) l
def callS (gl : Nat → Bool) (st : St) (dst : Option Nat) (c : Call) : Option Res :=
 let args := opds (rho st) c.args.toList
 match c.callee with
 | .value f => (match opd (rho st) f with
  | .fn (.func g) first caps => (match exps false st (appR (appR first args) caps) with
   | some (l, st') => some (.enter g l st')
   | none => none)
  | _ => none)
 | .builtin b => (match c.argTypes[0]?, dst with
  | some t, some d => (match b, args with
   | .append, [x, y] => bif notInt P c.argTypes[1]? then appendV P C gl st d t x y else none
   | .copy, [x, y] => copyV P st t x y
   | _, _ => none)
  | some t, none => (match b, args with
   | .copy, [x, y] => copyV P st t x y
   | .clear, [x] => clearV P st t x
   | _, _ => none)
  | _, _ => none)
 | .invoke _ _ => none
def fillA (sz : Nat) (is : List Nat) (vs l : List V) : Option (List V) :=
 List.rec (motive := fun _ => List V → List V → Option (List V)) (fun vs l => match vs with
  | [] => some l
  | _ => none) (fun i _ ih vs l => match vs with
  | v :: vs => bif Nat.beq (lenR v.cells) sz && Nat.blt i (lenR l) then ih vs (setR l i v) else none
  | [] => none) is vs l
def keyFits (kt : TypeId) (k : V) : Bool := match P.underlying kt, k with
 | some (.int _), .int _ _ => true
 | some .string, .str _ => true
 | some .bool, .bool _ => true
 | _, _ => false
def sameK (x y : V) : Option Bool := match x, y with
 | .int k a, .int k' b => if k = k' then some (eqI a b) else none
 | .str a, .str b => some (a.same b)
 | .bool a, .bool b => some (a == b)
 | _, _ => none
def findV (k : V) (l : List V) (i : Nat) : Option (Option Nat) :=
 List.rec (motive := fun _ => Nat → Option (Option Nat)) (fun _ => some none) (fun x _ ih i => match sameK k x with
  | some true => some (some i)
  | some false => ih (Nat.succ i)
  | none => none) l i
def lookV (t : TypeId) (h : Hp) (x k : V) (ok : Bool) : Option V := match x with
 | .mref (.glob r) => (match nthR h.rows r, P.underlying t with
  | some (.mp ks vs), some (.map kt et) => bif keyFits P kt k then (match findV k ks 0 with
    | some (some j) => (match nthR vs j with
     | some v => some (bif ok then .tuple [v, .bool true] else v)
     | none => none)
    | some none => (match zeroV P et with
     | some z => some (bif ok then .tuple [z, .bool false] else z)
     | none => none)
    | none => none) else none
  | _, _ => none)
 | _ => none
def layM (t : TypeId) (st : St) (x k v : V) : Option Res := match x, exp false st v with
 | .mref (.glob r), some (v, st') => (match nthR st'.hp.rows r, P.underlying t with
  | some (.mp ks vs), some (.map kt _) => bif keyFits P kt k then (match findV k ks 0 with
    | some (some j) => some (.val (.tuple []) (setRow st' (.glob r) (.mp (setR ks j k) (setR vs j v))))
    | some none => some (.val (.tuple []) (setRow st' (.glob r) (.mp (appR ks [k]) (appR vs [v]))))
    | none => none) else none
  | _, _ => none)
 | _, _ => none
def stepG (gl : Nat → Bool) (st : St) (o : Oper) : Option Res :=
 match o.op with
 | .load t x => (match opd (rho st) x with
  | .ptr (.glob r) off => (match nthR st.hp.rows r with
   | some (.cells _ cs) => (partV P t cs off).map (.val · st)
   | _ => none)
  | _ => none)
 | .store t a x => (match opd (rho st) a with
  | .ptr (.glob r) off => (match nthR st.hp.rows r, exp false st (opd (rho st) x) with
   | some (.cells false _), some (v, st') => (match nthR st'.hp.rows r with
    | some (.cells false cs) => bif allR V.cellOk v.cells && lenIs P t (lenR v.cells) then
      (match setAt cs off v.cells with
      | some cs' => some (.val (.tuple []) (setRow st' (.glob r) (.cells false cs')))
      | none => none)
     else none
    | _ => none)
   | _, _ => none)
  | _ => none)
 | .alloc t => (match o.dst with
  | none => none
  | some d => match zeroV P t, szOf P t with
   | some z, some n => bif gl d && z.live && Nat.beq (lenR z.cells) n then
     (let (r, st') := addRow st true d (.cells false z.cells)
      some (.val (.ptr r 0) st'))
    else none
   | _, _ => none)
 | .box _ x => (match o.dst with
  | none => none
  | some d => match exp false st (opd (rho st) x) with
   | some (v, st') => bif gl d then
     (let (r, st'') := addRow st' true d (.cells false v.cells)
      some (.val (.ptr r 0) st''))
    else none
   | none => none)
 | .build t ps => (match P.underlying t, zeroV P t, exps true st (opds (rho st) (ps.toList.map (·.2))) with
  | some (.struct fs), some z, some (l, st') =>
   let ρ : Nat → V := fun i => (nthR l i).getD .dead
   bif !(z.live && fs.all (fun f => (P.info? f.type).isSome)) then none else
   (match fillP P t ρ (ps.toList.zipIdx.map fun (p, i) => (p.1, Operand.tmp i)) z.cells with
   | some cs => some (.val (.agg cs) st')
   | none => none)
  | _, _, _ => none)
 | .buildSlice t len ps => (match elemT P t, o.dst with
  | some e, some d => (match layE P e, zeroV P e, exps false st (opds (rho st) (ps.toList.map (·.2))) with
   | some (n, ag), some z, some (l, st') =>
    bif C.isArr t && Nat.ble (len * n) 16777216 && z.live && Nat.beq (lenR z.cells) n && (ag || Nat.beq n 1) then
     (match fillA n (ps.toList.map (·.1)) l (repR len z) with
     | some items => (let (r, st'') := addRow st' (gl d) d (.cells false (flat items))
       some (.val (.arr r 0 len (some len) n ag) st''))
     | none => none)
    else none
   | _, _, _ => none)
  | _, _ => none)
 | .makeSlice t l c => (match o.dst with
  | some d => makeV P gl st d t (opd (rho st) l) (opd (rho st) c)
  | none => none)
 | .convert s t x => (match o.dst with
  | some d => convS P C gl st d s t (opd (rho st) x)
  | none => none)
 | .next x isStr => (match opd (rho st) x with
  | .ptr r 0 => (match getRow st r, isStr with
   | some (.iter s pos), true =>
    bif Nat.blt pos s.n then
     (let (c, width) := s.rune pos
      some (.val (.tuple [.bool true, .int .i64 pos, .int .i32 c]) (setRow st r (.iter s (pos + width)))))
    else some (.val (.tuple [.bool false]) st)
   | _, _ => none)
  | _ => none)
 | .call c => callS P C gl st o.dst c
 | .panic x => (match opd (rho st) x with
  | .iface t v => bif noLocR v then some (.panic (.iface t v) st) else none
  | _ => none)
 | .makeMap _ none => (match o.dst with
  | some d => (let (r, st') := addRow st true d (.mp [] [])
    some (.val (.mref r) st'))
  | none => none)
 | .lookup t x i ok => (lookV P t st.hp (opd (rho st) x) (opd (rho st) i) ok).map (.val · st)
 | .mapUpdate t m k x => layM P t st (opd (rho st) m) (opd (rho st) k) (opd (rho st) x)
 | .insert t m k x => layM P t st (opd (rho st) m) (opd (rho st) k) (opd (rho st) x)
 | _ => none
def stepV (gl : Nat → Bool) (st : St) (o : Oper) : Option Res :=
 match locV P C gl (rho st) (lcf st) o with
 | some (v, u) => some (.val v (applyL st u))
 | none => stepG P C gl st o
def putV (st : St) (d : Option Nat) (v : V) : St := match d with
 | some i => { st with tm := aset st.tm i v }
 | none => st
def wantedV (ops : Array Oper) (o : Oper) (ρ : Nat → V) : Option Bool :=
 match o.guard with
 | none => some true
 | some (j, w) => match (ops[j]?).bind (·.dst) with
  | none => none
  | some d => match ρ d with
   | .bool b => some (b == w)
   | .dead => none
   | _ => some false
def oneV (call : CallF) (gl : Nat → Bool) (st : St) (o : Oper) : Option (Ex × St) :=
 match stepV P C gl st o with
 | some (.val v st') => some (.normal, putV st' o.dst v)
 | some (.enter f args st') => (match call f args st'.hp with
  | some (.val v h) => some (.normal, putV { st' with hp := h } o.dst v)
  | some (.panic v h) => some (.panic v, { st' with hp := h })
  | none => none)
 | some (.panic v st') => some (.panic v, st')
 | none => none
def opsV (call : CallF) (gl : Nat → Bool) (all : Array Oper) (l : List Oper) (st : St) : Option (Ex × St) :=
 List.rec (motive := fun _ => St → Option (Ex × St)) (fun st => some (.normal, st)) (fun o _ ih st =>
  match wantedV all o (rho st) with
  | none => none
  | some false => ih (putV st o.dst (.tuple []))
  | some true => match oneV P C call gl st o with
   | some (.normal, st') => ih st'
   | r => r) l st
def loopV (body : St → Option (Ex × St)) (n : Nat) (st : St) : Option (Ex × St) :=
 Nat.rec (motive := fun _ => St → Option (Ex × St)) (fun _ => none) (fun _ ih st => match body st with
  | some (.normal, st') => ih st'
  | r => r) n st
def quiet1 : V → Bool
 | .arr (.loc _ _) .. => false
 | .agg _ => false
 | _ => true
def quiet : V → Bool
 | .agg cs => allR quiet1 cs
 | v => quiet1 v
def sliceFoot : V → Option (List Nat)
 | .slice none _ _ _ => some []
 | .slice (some (.loc s _)) _ _ _ => some [s]
 | .slice (some (.glob _)) _ _ _ => none
 | .arr (.loc s _) .. => some [s]
 | .arr (.glob _) .. => none
 | _ => some []
def itemsFoot : V → Option (List Nat)
 | .arr (.loc s _) .. => some [s]
 | .arr (.glob _) .. => none
 | _ => some []
def farX : V → Bool
 | .slice (some (.loc _ _)) _ _ _ => false
 | .arr (.loc _ _) .. => false
 | _ => true
def itemsLoc : V → List Nat
 | .arr (.loc s _) .. => [s]
 | _ => []
def immX : V → Bool
 | .slice .. => true
 | .nils => true
 | _ => false
def appFoot (gl : Nat → Bool) (ρ : Nat → V) (dst : Option Nat) (c : Call) : Option Foot :=
 match dst, c.args.toList with
 | some d, [x, y] => bif gl d then (bif farX (opd ρ x) then some ⟨itemsLoc (opd ρ y), [], true, true, false, immX (opd ρ x)⟩ else none) else
  (match sliceFoot (opd ρ x), itemsFoot (opd ρ y) with
  | some a, some b => some ⟨d :: appR a b, d :: a, false, false, false, false⟩
  | _, _ => none)
 | _, _ => none
def convFoot (d : Option TypeDesc) (x : V) : Option Foot := match d, x with
 | some .string, .arr (.loc s _) _ _ _ _ _ => some ⟨[s], [], false, false, false, false⟩
 | _, _ => none
def footV (gl : Nat → Bool) (ρ : Nat → V) (lc : Nat → Nat × Row) (o : Oper) : Option Foot :=
 match locV P C gl ρ lc o with
 | some (_, none) => (match o.op with
  | .load _ x => (match opd ρ x with
   | .ptr (.loc s _) _ => some ⟨[s], [], false, false, false, false⟩
   | _ => some ⟨[], [], false, false, false, false⟩)
  | _ => some ⟨[], [], false, false, false, false⟩)
 | some (_, some (s, _, _)) => some ⟨[s], [s], false, false, false, false⟩
 | none => (match o.op with
  | .call c => (match c.callee with
   | .value f => (match opd ρ f with
    | .fn (.func _) first caps => bif allR quiet first && allR quiet (opds ρ c.args.toList) && allR quiet caps then some ⟨[], [], true, true, false, false⟩ else none
    | _ => none)
   | .builtin .append => appFoot gl ρ o.dst c
   | _ => none)
  | .load _ x => (match opd ρ x with
   | .ptr (.glob _) _ => some ⟨[], [], true, false, true, false⟩
   | _ => none)
  | .store _ a x => (match opd ρ a with
   | .ptr (.glob _) _ => bif quiet (opd ρ x) then some ⟨[], [], true, true, false, false⟩ else none
   | _ => none)
  | .alloc _ => some ⟨[], [], true, true, false, false⟩
  | .box _ x => bif quiet (opd ρ x) then some ⟨[], [], true, true, false, false⟩ else none
  | .panic _ => some ⟨[], [], true, true, false, false⟩
  | .convert _ t x => convFoot (P.underlying t) (opd ρ x)
  | .makeMap _ _ => some ⟨[], [], true, true, false, false⟩
  | .lookup _ _ _ _ => some ⟨[], [], true, false, false, false⟩
  | .mapUpdate _ _ _ x => bif quiet (opd ρ x) then some ⟨[], [], true, true, false, false⟩ else none
  | .insert _ _ _ x => bif quiet (opd ρ x) then some ⟨[], [], true, true, false, false⟩ else none
  | _ => none)
def settle (h h' : Hp) (ft : Foot) : Foot := bif Nat.beq h'.mods h.mods then (bif Nat.beq (lenR h'.rows) (lenR h.rows) then { ft with hp := false } else { ft with sf := true }) else ft
def maskOf (acc : List Nat) (l : List Edge) : Nat :=
 List.rec (motive := fun _ => Nat) 0 (fun e _ ih => bif Region.binds .any e then Nat.lor (Nat.lor (Nat.shiftLeft 1 e.on) (List.rec (motive := fun _ => Nat) 0 (fun x _ _ => x) (dropR acc e.on))) ih else ih) l
def masks (l : List Oper) (acc : List Nat) : List Nat :=
 List.rec (motive := fun _ => List Nat → List Nat) (fun acc => acc) (fun o _ ih acc => ih (appR acc [maskOf acc o.after.toList])) l acc
def behind (ops : List Oper) (k : Nat) : Stop → Bool
 | none => false
 | some (i, _, _) => Nat.testBit ((masks ops []).getD k 0) i
def stopOp (o : Oper) : Bool := match o.op with
 | .call c => (match c.callee with
  | .value _ => true
  | _ => false)
 | .panic _ => true
 | _ => false
def consF (f : Foot) : Option (List Foot × St × Stop) → Option (List Foot × St × Stop)
 | some (fs, s, q) => some (f :: fs, s, q)
 | none => none
def drawOps (call : CallF) (gl : Nat → Bool) (all : Array Oper) (l : List Oper) (k : Nat) (sp : Stop) (st : St) : Option (List Foot × St × Stop) :=
 List.rec (motive := fun _ => Nat → Stop → St → Option (List Foot × St × Stop)) (fun _ sp st => some ([], st, sp)) (fun o _ ih k sp st =>
  bif behind all.toList k sp then consF ⟨[], [], false, false, false, false⟩ (ih (Nat.succ k) sp (putV st o.dst (.tuple [])))
  else match wantedV all o (rho st) with
  | none => none
  | some false => consF ⟨[], [], false, false, false, false⟩ (ih (Nat.succ k) sp (putV st o.dst (.tuple [])))
  | some true => (match footV P C gl (rho st) (lcf st) o, oneV P C call gl st o with
   | some ft, some (.normal, st') => consF (settle st.hp st'.hp ft) (ih (Nat.succ k) sp st')
   | some ft, some (.panic v, st') => (match sp with
    | none => bif stopOp o then consF ft (ih (Nat.succ k) (some (k, v, st'.hp)) (putV st o.dst (.tuple []))) else none
    | some _ => none)
   | _, _ => none)) l k sp st
def traceless (m : Nat) (fs : List Foot) (k : Nat) : Bool :=
 List.rec (motive := fun _ => Nat → Bool) (fun _ => true) (fun f _ ih k => (Nat.testBit m k || f.wr.isEmpty) && ih (Nat.succ k)) fs k
def killV (l : List Oper) (st : St) : St :=
 List.rec (motive := fun _ => St → St) (fun st => st) (fun o _ ih st => ih (putV st o.dst .dead)) l st
def disj (a b : List Nat) : Bool :=
 List.rec (motive := fun _ => Bool) true (fun s _ ih => allR (fun t => !Nat.beq s t) b && ih) a
def indep (a b : Foot) : Bool := !(a.hp && (b.hr || b.hp)) && !(a.hr && b.hp && !(a.ld && b.sf)) && disj a.wr b.rd && disj a.wr b.wr && disj a.rd b.wr
def pairsOk (fs : List Foot) (l : List (Nat × Nat)) : Bool :=
 List.rec (motive := fun _ => Bool) true (fun p _ ih => (match nthR fs p.1, nthR fs p.2 with
  | some a, some b => indep a b
  | _, _ => false) && ih) l
def anyFar (fs : List Foot) (os : List Oper) : Bool :=
 List.rec (motive := fun _ => List Oper → Bool) (fun _ => false) (fun f _ ih os => match os with
  | o :: os => f.far o || ih os
  | [] => false) fs os
def endV (P1 P2 : List (Nat × Nat)) (ops : List Oper) (st : St) (fs : List Foot) (st' : St) : Stop → Option (Ex × St)
 | none => bif pairsOk fs P1 && (!anyFar fs ops || pairsOk fs P2) then some (.normal, st') else none
 | some (i, v, h) => bif pairsOk fs P1 && (!anyFar fs ops || pairsOk fs P2) && traceless ((masks ops []).getD i 0) fs 0 then
   some (.panic v, { tm := (killV ops st).tm, loc := st'.loc, hp := h }) else none
def regionV (call : CallF) (f : FuncId) (id : Nat) (ops : Array Oper) (draw : Bool) (st : St) : Option (Ex × St) :=
 match draw with
 | false => opsV P C call (C.glob f) ops ops.toList st
 | true => (match drawOps P C call (C.glob f) ops ops.toList 0 none st with
  | some (fs, st', sp) => endV (C.pairs f id) (C.pairsH f id) ops.toList st fs st' sp
  | none => none)
def codeV (call : CallF) (f : FuncId) (fuel : Nat) (c : Code) (st : St) : Option (Ex × St) :=
 Code.rec (motive := fun _ => St → Option (Ex × St))
  (fun st => some (.normal, st))
  (fun id ops draw st => regionV P C call f id ops draw st)
  (fun _ _ iha ihb st => match iha st with
   | some (.normal, st') => ihb st'
   | r => r)
  (fun c _ _ iha ihb st => match opd (rho st) c with
   | .bool true => iha st
   | .bool false => ihb st
   | _ => none)
  (fun id _ ih st => match ih st with
   | some (.exit i, st') => bif Nat.beq i id then some (.normal, st') else some (.exit i, st')
   | r => r)
  (fun _ ih st => loopV ih fuel st)
  (fun _ _ _ _ _ _ _ => none)
  (fun i st => some (.exit i, st))
  (fun _ _ _ => none)
  (fun _ _ => none)
  (fun _ _ => none)
  (fun st => some (.ret, st))
  (fun _ _ => none)
  c st
def resV (st : St) (l : List ResultVar) : Option (List V) :=
 List.rec (motive := fun _ => Option (List V)) (some []) (fun r _ ih => match r with
  | .tmp t => ih.map (rho st t :: ·)
  | .cell a t => match rho st a with
   | .ptr r off => (match getRow st r with
    | some (.cells _ cs) => (match partV P t cs off, ih with
     | some v, some vs => some (v :: vs)
     | _, _ => none)
    | _ => none)
   | _ => none) l
def startFrom (k : Nat) (l : List V) (t : Tr V) : Tr V :=
 List.rec (motive := fun _ => Nat → Tr V → Tr V) (fun _ t => t) (fun v _ ih k t => ih (Nat.succ k) (aset t k v)) l k t
def startTm (args : List V) : Tr V := startFrom 0 args .lf
def cleanB (h h' : Hp) : Bool := match h'.dirty with
 | none => true
 | some d => Nat.ble (lenR h.rows) d
def backHp (h h' : Hp) (l : List V) : Hp :=
 bif cleanB h h' then (bif noRefsLR l then h else { rows := h'.rows, dirty := h.dirty, mods := h.mods })
 else { rows := h'.rows, dirty := match h.dirty, h'.dirty with
  | none, d => d
  | some d, none => some d
  | some d, some d' => some (min d d'), mods := h'.mods }
def bodyV (call : CallF) (fuel : Nat) (f : FuncId) (args : List V) (h : Hp) : Option Out :=
 match C.use f, P.funcs[f]? with
 | false, _ => none
 | _, none => none
 | true, some fn => match fn.body with
  | none => none
  | some c => match codeV P C call f fuel c { tm := startTm args, loc := .lf, hp := { h with dirty := none } } with
   | some (.normal, st) | some (.ret, st) => (match resV P st fn.results.toList with
    | none => none
    | some l => match exps false st l with
     | none => none
     | some (l, st') => match l with
      | [v] => some (.val v (backHp h st'.hp [v]))
      | vs => some (.val (.tuple vs) (backHp h st'.hp vs)))
   | some (.panic v, st) => some (.panic v (backHp h st.hp [v]))
   | _ => none
end
end
end Go.AM.F
end

section
namespace Go.AM.F
open Go Go.AM
set_option maxHeartbeats 2000000
mutual
theorem noLoc1 : ∀ v : V, noLocR v = v.noLoc
 | .dead => rfl
 | .int _ _ => rfl
 | .bool _ => rfl
 | .str _ => rfl
 | .nilp => rfl
 | .ptr (.loc _ _) _ => rfl
 | .ptr (.glob _) _ => rfl
 | .iptr cs => noLoc2 cs
 | .nils => rfl
 | .slice none _ _ _ => rfl
 | .slice (some (.loc _ _)) _ _ _ => rfl
 | .slice (some (.glob _)) _ _ _ => rfl
 | .arr (.loc _ _) .. => rfl
 | .arr (.glob _) .. => rfl
 | .fn _ a b => by rw [V.noLoc, ← noLoc2 a, ← noLoc2 b]; rfl
 | .nilf => rfl
 | .iface _ v => noLoc1 v
 | .nili => rfl
 | .agg cs => noLoc2 cs
 | .tuple cs => noLoc2 cs
 | .sym _ => rfl
 | .mref (.loc _ _) => rfl
 | .mref (.glob _) => rfl
 | .nilm => rfl
theorem noLoc2 : ∀ l : List V, V.rec_1 (motive_1 := fun _ => Bool) (motive_2 := fun _ => Bool)
 true (fun _ _ => true) (fun _ => true) (fun _ => true) true (fun r _ => match r with | .loc _ _ => false | _ => true) (fun _ ih => ih) true
 (fun tok _ _ _ _ => match tok with | some (.loc _ _) => false | _ => true) (fun r _ _ _ _ _ => match r with | .loc _ _ => false | _ => true)
 (fun _ _ _ a b => a && b) true (fun _ _ ih => ih) true (fun _ ih => ih) (fun _ ih => ih) (fun _ => true) (fun r => match r with | .loc _ _ => false | _ => true) true true (fun _ _ a b => a && b) l = V.noLocL l
 | [] => rfl
 | v :: l => by rw [V.noLocL, ← noLoc1 v, ← noLoc2 l]; rfl
end
theorem e_noLocR : @noLocR = @V.noLoc := by funext v; exact noLoc1 v
theorem e_noLocLR : @noLocLR = @V.noLocL := by
 funext l
 induction l with
 | nil => rfl
 | cons v l ih => rw [V.noLocL, ← ih, ← e_noLocR]; rfl
mutual
theorem noRefs1 : ∀ v : V, noRefsR v = v.noRefs
 | .dead => rfl
 | .int _ _ => rfl
 | .bool _ => rfl
 | .str _ => rfl
 | .nilp => rfl
 | .ptr _ _ => rfl
 | .iptr cs => noRefs2 cs
 | .nils => rfl
 | .slice _ _ _ _ => rfl
 | .arr .. => rfl
 | .fn _ a b => by rw [V.noRefs, ← noRefs2 a, ← noRefs2 b]; rfl
 | .nilf => rfl
 | .iface _ v => noRefs1 v
 | .nili => rfl
 | .agg cs => noRefs2 cs
 | .tuple cs => noRefs2 cs
 | .sym _ => rfl
 | .mref _ => rfl
 | .nilm => rfl
theorem noRefs2 : ∀ l : List V, V.rec_1 (motive_1 := fun _ => Bool) (motive_2 := fun _ => Bool)
 true (fun _ _ => true) (fun _ => true) (fun _ => true) true (fun _ _ => false) (fun _ ih => ih) true
 (fun tok _ _ _ _ => tok.isNone) (fun _ _ _ _ _ _ => false)
 (fun _ _ _ a b => a && b) true (fun _ _ ih => ih) true (fun _ ih => ih) (fun _ ih => ih) (fun _ => true) (fun _ => false) true true (fun _ _ a b => a && b) l = V.noRefsL l
 | [] => rfl
 | v :: l => by rw [V.noRefsL, ← noRefs1 v, ← noRefs2 l]; rfl
end
theorem e_noRefsR : @noRefsR = @V.noRefs := by funext v; exact noRefs1 v
theorem e_noRefsLR : @noRefsLR = @V.noRefsL := by
 funext l
 induction l with
 | nil => rfl
 | cons v l ih => rw [V.noRefsL, ← ih, ← e_noRefsR]; rfl
theorem e_plainR : @F.plainR = @AM.V.plain := by
 first
 | rfl
 | (repeat (apply funext; intro)); unfold F.plainR AM.V.plain; simp only [e_noLocR, aget_eq, aset_eq, ltI_eq, eqI_eq, wrapI_eq] <;> rfl
theorem e_weakR : @F.weakR = @AM.V.weakA := by
 first
 | rfl
 | (repeat (apply funext; intro)); unfold F.weakR AM.V.weakA; simp only [mapR_eq, aget_eq, aset_eq, ltI_eq, eqI_eq, wrapI_eq] <;> rfl
theorem e_weakBR : @F.weakBR = @AM.V.weakB := by
 first
 | rfl
 | (repeat (apply funext; intro)); unfold F.weakBR AM.V.weakB; simp only [mapR_eq, aget_eq, aset_eq, ltI_eq, eqI_eq, wrapI_eq] <;> rfl
theorem e_opd : @F.opd = @AM.opd := by
 first
 | rfl
 | (repeat (apply funext; intro)); unfold F.opd AM.opd; simp only [aget_eq, aset_eq, ltI_eq, eqI_eq, wrapI_eq] <;> rfl
theorem e_rho : @F.rho = @AM.St.ρ := by
 first
 | rfl
 | (repeat (apply funext; intro)); unfold F.rho AM.St.ρ; simp only [aget_eq, aset_eq, ltI_eq, eqI_eq, wrapI_eq] <;> rfl
theorem e_lcf : @F.lcf = @AM.St.lc := by
 first
 | rfl
 | (repeat (apply funext; intro)); unfold F.lcf AM.St.lc; simp only [aget_eq, aset_eq, ltI_eq, eqI_eq, wrapI_eq] <;> rfl
theorem e_getRow : @F.getRow = @AM.getRow := by
 first
 | rfl
 | (repeat (apply funext; intro)); unfold F.getRow AM.getRow; simp only [e_lcf, nthR_eq, aget_eq, aset_eq, ltI_eq, eqI_eq, wrapI_eq] <;> rfl
theorem e_lower : @F.lower = @AM.lower := by
 first
 | rfl
 | (repeat (apply funext; intro)); unfold F.lower AM.lower; simp only [aget_eq, aset_eq, ltI_eq, eqI_eq, wrapI_eq] <;> rfl
theorem e_setRow : @F.setRow = @AM.setRow := by
 first
 | rfl
 | (repeat (apply funext; intro)); unfold F.setRow AM.setRow; simp only [e_lower, setR_eq, aget_eq, aset_eq, ltI_eq, eqI_eq, wrapI_eq] <;> rfl
theorem e_addRow : @F.addRow = @AM.addRow := by
 first
 | rfl
 | (repeat (apply funext; intro)); unfold F.addRow AM.addRow; simp only [e_lcf, lenR_eq, appR_eq, aget_eq, aset_eq, ltI_eq, eqI_eq, wrapI_eq] <;> rfl
theorem e_toNatLt : @F.toNatLt = @AM.toNatLt := by
 first
 | rfl
 | (repeat (apply funext; intro)); unfold F.toNatLt AM.toNatLt; simp only [aget_eq, aset_eq, ltI_eq, eqI_eq, wrapI_eq] <;> rfl
theorem e_toNatLe : @F.toNatLe = @AM.toNatLe := by
 first
 | rfl
 | (repeat (apply funext; intro)); unfold F.toNatLe AM.toNatLe; simp only [aget_eq, aset_eq, ltI_eq, eqI_eq, wrapI_eq] <;> rfl
theorem e_intCmp : @F.intCmp = @AM.intCmp := by
 funext op a b
 have h1 : (!decide (b < a)) = decide (a ≤ b) := by rw [← decide_not]; exact decide_eq_decide.2 Int.not_lt
 have h2 : (!decide (a < b)) = decide (a ≥ b) := by rw [← decide_not]; exact decide_eq_decide.2 Int.not_lt
 cases op <;> simp only [F.intCmp, AM.intCmp, ltI_eq, eqI_eq, h1, h2] <;> rfl
theorem e_binInt : @F.binInt = @AM.binInt := by
 first
 | rfl
 | (repeat (apply funext; intro)); unfold F.binInt AM.binInt; simp only [e_intCmp, aget_eq, aset_eq, ltI_eq, eqI_eq, wrapI_eq] <;> rfl
theorem e_strOp : @F.strOp = @AM.strOp := by
 first
 | rfl
 | (repeat (apply funext; intro)); unfold F.strOp AM.strOp; simp only [aget_eq, aset_eq, ltI_eq, eqI_eq, wrapI_eq] <;> rfl
theorem e_shiftV : @F.shiftV = @AM.shiftV := by
 first
 | rfl
 | (repeat (apply funext; intro)); unfold F.shiftV AM.shiftV; simp only [aget_eq, aset_eq, ltI_eq, eqI_eq, wrapI_eq] <;> rfl
theorem e_isEq : @F.isEq = @AM.isEq := by
 first
 | rfl
 | (repeat (apply funext; intro)); unfold F.isEq AM.isEq; simp only [aget_eq, aset_eq, ltI_eq, eqI_eq, wrapI_eq] <;> rfl
theorem e_binV : @F.binV = @AM.binV := by
 first
 | rfl
 | (repeat (apply funext; intro)); unfold F.binV AM.binV; simp only [e_binInt, e_strOp, e_shiftV, aget_eq, aset_eq, ltI_eq, eqI_eq, wrapI_eq] <;> rfl
theorem e_isConst : @F.isConst = @AM.isConst := by
 first
 | rfl
 | (repeat (apply funext; intro)); unfold F.isConst AM.isConst; simp only [aget_eq, aset_eq, ltI_eq, eqI_eq, wrapI_eq] <;> rfl
theorem e_eqV : @F.eqV = @AM.eqV := by
 first
 | rfl
 | (repeat (apply funext; intro)); unfold F.eqV AM.eqV; simp only [e_isEq, aget_eq, aset_eq, ltI_eq, eqI_eq, wrapI_eq] <;> rfl
theorem e_unV : @F.unV = @AM.unV := by
 first
 | rfl
 | (repeat (apply funext; intro)); unfold F.unV AM.unV; simp only [e_binInt, aget_eq, aset_eq, ltI_eq, eqI_eq, wrapI_eq] <;> rfl
theorem e_szOf : @F.szOf = @AM.szOf := by
 first
 | rfl
 | (repeat (apply funext; intro)); unfold F.szOf AM.szOf; simp only [aget_eq, aset_eq, ltI_eq, eqI_eq, wrapI_eq] <;> rfl
theorem e_aggT : @F.aggT = @AM.aggT := by
 first
 | rfl
 | (repeat (apply funext; intro)); unfold F.aggT AM.aggT; simp only [aget_eq, aset_eq, ltI_eq, eqI_eq, wrapI_eq] <;> rfl
theorem e_zeroV : @F.zeroV = @AM.zeroV := by
 first
 | rfl
 | (repeat (apply funext; intro)); unfold F.zeroV AM.zeroV; simp only [aget_eq, aset_eq, ltI_eq, eqI_eq, wrapI_eq] <;> rfl
theorem e_elemT : @F.elemT = @AM.elemT := by
 first
 | rfl
 | (repeat (apply funext; intro)); unfold F.elemT AM.elemT; simp only [aget_eq, aset_eq, ltI_eq, eqI_eq, wrapI_eq] <;> rfl
theorem e_fieldOf : @F.fieldOf = @AM.fieldOf := by
 first
 | rfl
 | (repeat (apply funext; intro)); unfold F.fieldOf AM.fieldOf; simp only [aget_eq, aset_eq, ltI_eq, eqI_eq, wrapI_eq] <;> rfl
theorem e_byteE : @F.byteE = @AM.byteE := by
 first
 | rfl
 | (repeat (apply funext; intro)); unfold F.byteE AM.byteE; simp only [aget_eq, aset_eq, ltI_eq, eqI_eq, wrapI_eq] <;> rfl
theorem e_lenIs : @F.lenIs = @AM.lenIs := by
 first
 | rfl
 | (repeat (apply funext; intro)); unfold F.lenIs AM.lenIs; simp only [e_szOf, aget_eq, aset_eq, ltI_eq, eqI_eq, wrapI_eq] <;> rfl
theorem e_layE : @F.layE = @AM.layE := by
 first
 | rfl
 | (repeat (apply funext; intro)); unfold F.layE AM.layE; simp only [e_szOf, e_aggT, aget_eq, aset_eq, ltI_eq, eqI_eq, wrapI_eq] <;> rfl
theorem e_partV : @F.partV = @AM.partV := by
 first
 | rfl
 | (repeat (apply funext; intro)); unfold F.partV AM.partV; simp only [e_layE, lenR_eq, takeR_eq, dropR_eq, nthR_eq, aget_eq, aset_eq, ltI_eq, eqI_eq, wrapI_eq] <;> rfl
theorem e_setAt : @F.setAt = @AM.setAt := by
 funext cs off vs
 unfold F.setAt AM.setAt
 simp only [lenR_eq]
 cases h : Nat.ble (Nat.add off vs.length) cs.length with
 | false => rfl
 | true =>
  have hle : off + vs.length ≤ cs.length := by rw [Nat.ble_eq] at h; exact h
  simp only [cond_true]
  rw [atR_eq _ _ _ (by omega), overR_eq _ _ (by simp; omega), List.drop_drop, List.append_assoc]
theorem e_chunk : @F.chunk = @AM.chunk := by
 funext sz ag n
 induction n with
 | zero => rfl
 | succ n ih =>
  funext cs
  show (bif ag then V.agg (takeR cs sz) else (List.rec (motive := fun _ => V) .dead (fun x _ _ => x) cs).unagg) :: F.chunk sz ag n (dropR cs sz) = _
  rw [ih, AM.chunk, takeR_eq, dropR_eq]
  cases cs <;> rfl
theorem e_sliceImm : @F.sliceImm = @AM.sliceImm := by
 first
 | rfl
 | (repeat (apply funext; intro)); unfold F.sliceImm AM.sliceImm; simp only [e_toNatLe, lenR_eq, takeR_eq, dropR_eq, aget_eq, aset_eq, ltI_eq, eqI_eq, wrapI_eq] <;> rfl
theorem e_optInt : @F.optInt = @AM.optInt := by
 first
 | rfl
 | (repeat (apply funext; intro)); unfold F.optInt AM.optInt; simp only [e_opd, aget_eq, aset_eq, ltI_eq, eqI_eq, wrapI_eq] <;> rfl
theorem e_sliceStr : @F.sliceStr = @AM.sliceStr := by
 first
 | rfl
 | (repeat (apply funext; intro)); unfold F.sliceStr AM.sliceStr; simp only [e_toNatLe, aget_eq, aset_eq, ltI_eq, eqI_eq, wrapI_eq] <;> rfl
theorem e_sliceArr : @F.sliceArr = @AM.sliceArr := by
 first
 | rfl
 | (repeat (apply funext; intro)); unfold F.sliceArr AM.sliceArr; simp only [e_toNatLe, aget_eq, aset_eq, ltI_eq, eqI_eq, wrapI_eq] <;> rfl
theorem e_sliceV : @F.sliceV = @AM.sliceV := by
 first
 | rfl
 | (repeat (apply funext; intro)); unfold F.sliceV AM.sliceV; simp only [e_toNatLe, e_elemT, e_layE, e_sliceImm, e_sliceStr, e_sliceArr, aget_eq, aset_eq, ltI_eq, eqI_eq, wrapI_eq] <;> rfl
theorem e_indexAddrV : @F.indexAddrV = @AM.indexAddrV := by
 first
 | rfl
 | (repeat (apply funext; intro)); unfold F.indexAddrV AM.indexAddrV; simp only [e_toNatLt, e_elemT, e_layE, lenR_eq, nthR_eq, aget_eq, aset_eq, ltI_eq, eqI_eq, wrapI_eq] <;> rfl
theorem e_convV : @F.convV = @AM.convV := by
 first
 | rfl
 | (repeat (apply funext; intro)); unfold F.convV AM.convV; simp only [aget_eq, aset_eq, ltI_eq, eqI_eq, wrapI_eq] <;> rfl
theorem e_fillP : @F.fillP = @AM.fillP := by
 funext P t ρ ps
 induction ps with
 | nil => rfl
 | cons p ps ih =>
  funext cs
  obtain ⟨i, x⟩ := p
  rw [AM.fillP]
  simp only [← e_fieldOf, ← e_szOf, ← e_plainR, ← e_weakBR, ← e_opd, ← e_setAt, ← ih, ← lenR_eq]
  rfl
theorem e_fillE : @F.fillE = @AM.fillE := by
 funext sz ρ ps
 induction ps with
 | nil => rfl
 | cons p ps ih =>
  funext l
  obtain ⟨i, x⟩ := p
  rw [AM.fillE]
  simp only [← e_noRefsR, ← e_weakR, ← e_opd, ← ih, ← lenR_eq, ← setR_eq]
  rfl
theorem e_pureV : @F.pureV = @AM.pureV := by
 first
 | rfl
 | (repeat (apply funext; intro)); unfold F.pureV AM.pureV; simp only [e_noRefsR, e_opd, e_toNatLt, e_binV, e_isConst, e_eqV, e_unV, e_zeroV, e_elemT, e_fieldOf, e_layE, e_partV, e_optInt, e_sliceV, e_indexAddrV, e_convV, e_fillP, e_fillE, lenR_eq, mapR_eq, dropR_eq, nthR_eq, repR_eq, aget_eq, aset_eq, ltI_eq, eqI_eq, wrapI_eq] <;> rfl
theorem e_locV : @F.locV = @AM.locV := by
 first
 | rfl
 | (repeat (apply funext; intro)); unfold F.locV AM.locV; simp only [e_opd, e_szOf, e_zeroV, e_lenIs, e_partV, e_setAt, e_pureV, lenR_eq, allR_eq, aget_eq, aset_eq, ltI_eq, eqI_eq, wrapI_eq] <;> rfl
theorem e_applyL : @F.applyL = @AM.applyL := by
 first
 | rfl
 | (repeat (apply funext; intro)); unfold F.applyL AM.applyL; simp only [aget_eq, aset_eq, ltI_eq, eqI_eq, wrapI_eq] <;> rfl
theorem e_itemsOf : @F.itemsOf = @AM.itemsOf := by
 first
 | rfl
 | (repeat (apply funext; intro)); unfold F.itemsOf AM.itemsOf; simp only [e_getRow, e_chunk, lenR_eq, mapR_eq, dropR_eq, aget_eq, aset_eq, ltI_eq, eqI_eq, wrapI_eq] <;> rfl
theorem e_freeze : @F.freeze = @AM.freeze := by
 first
 | rfl
 | (repeat (apply funext; intro)); unfold F.freeze AM.freeze; simp only [e_noRefsLR, e_getRow, e_setRow, e_itemsOf, aget_eq, aset_eq, ltI_eq, eqI_eq, wrapI_eq] <;> rfl
theorem e_isLoc : @F.isLoc = @AM.isLoc := by
 first
 | rfl
 | (repeat (apply funext; intro)); unfold F.isLoc AM.isLoc; simp only [aget_eq, aset_eq, ltI_eq, eqI_eq, wrapI_eq] <;> rfl
theorem e_exp1 : @F.exp1 = @AM.exp1 := by
 first
 | rfl
 | (repeat (apply funext; intro)); unfold F.exp1 AM.exp1; simp only [e_noLocR, e_freeze, e_isLoc, aget_eq, aset_eq, ltI_eq, eqI_eq, wrapI_eq] <;> rfl
theorem e_expL : @F.expL = @AM.expL := by
 funext fz st l
 induction l generalizing st with
 | nil => rfl
 | cons v l ih =>
  rw [AM.expL]
  simp only [← e_exp1, ← ih]
  rfl
theorem e_exp : @F.exp = @AM.exp := by
 first
 | rfl
 | (repeat (apply funext; intro)); unfold F.exp AM.exp; simp only [e_exp1, e_expL, aget_eq, aset_eq, ltI_eq, eqI_eq, wrapI_eq] <;> rfl
theorem e_exps : @F.exps = @AM.exps := by
 funext fz st l
 induction l generalizing st with
 | nil => rfl
 | cons v l ih =>
  rw [AM.exps]
  simp only [← e_exp, ← ih]
  rfl
theorem e_flat : @F.flat = @AM.flat := by
 funext l
 induction l with
 | nil => rfl
 | cons v l ih =>
  have : AM.flat (v :: l) = v.cells ++ AM.flat l := rfl
  rw [this, ← ih, ← appR_eq]; rfl
theorem e_growArr : @F.growArr = @AM.growArr := by
 first
 | rfl
 | (repeat (apply funext; intro)); unfold F.growArr AM.growArr; simp only [e_noLocLR, e_addRow, aget_eq, aset_eq, ltI_eq, eqI_eq, wrapI_eq] <;> rfl
theorem e_growImm : @F.growImm = @AM.growImm := by
 first
 | rfl
 | (repeat (apply funext; intro)); unfold F.growImm AM.growImm; simp only [e_addRow, aget_eq, aset_eq, ltI_eq, eqI_eq, wrapI_eq] <;> rfl
theorem e_maxBytes : @F.maxBytes = @AM.maxBytes := by
 first
 | rfl
 | (repeat (apply funext; intro)); unfold F.maxBytes AM.maxBytes; simp only [aget_eq, aset_eq, ltI_eq, eqI_eq, wrapI_eq] <;> rfl
theorem e_appendV : @F.appendV = @AM.appendV := by
 first
 | rfl
 | (repeat (apply funext; intro)); unfold F.appendV AM.appendV; simp only [e_noLocLR, e_noRefsLR, e_getRow, e_setRow, e_elemT, e_byteE, e_layE, e_setAt, e_itemsOf, e_isLoc, e_flat, e_growArr, e_growImm, e_maxBytes, lenR_eq, appR_eq, allR_eq, takeR_eq, dropR_eq, aget_eq, aset_eq, ltI_eq, eqI_eq, wrapI_eq] <;> rfl
theorem e_makeV : @F.makeV = @AM.makeV := by
 first
 | rfl
 | (repeat (apply funext; intro)); unfold F.makeV AM.makeV; simp only [e_addRow, e_zeroV, e_elemT, e_layE, e_flat, e_maxBytes, lenR_eq, repR_eq, aget_eq, aset_eq, ltI_eq, eqI_eq, wrapI_eq] <;> rfl
theorem e_copyV : @F.copyV = @AM.copyV := by
 first
 | rfl
 | (repeat (apply funext; intro)); unfold F.copyV AM.copyV; simp only [e_noLocLR, e_getRow, e_setRow, e_elemT, e_layE, e_setAt, e_itemsOf, e_isLoc, e_flat, lenR_eq, allR_eq, takeR_eq, aget_eq, aset_eq, ltI_eq, eqI_eq, wrapI_eq] <;> rfl
theorem e_clearV : @F.clearV = @AM.clearV := by
 first
 | rfl
 | (repeat (apply funext; intro)); unfold F.clearV AM.clearV; simp only [e_noLocR, e_getRow, e_setRow, e_zeroV, e_elemT, e_layE, e_setAt, e_isLoc, e_flat, lenR_eq, repR_eq, aget_eq, aset_eq, ltI_eq, eqI_eq, wrapI_eq] <;> rfl
theorem e_bytesOf : @F.bytesOf = @AM.bytesOf := by
 funext l
 induction l with
 | nil => rfl
 | cons v l ih =>
  cases v with
  | int k n => cases k <;> first | rfl | (rw [AM.bytesOf, ← ih]; rfl)
  | _ => rfl
theorem e_convS : @F.convS = @AM.convS := by
 first
 | rfl
 | (repeat (apply funext; intro)); unfold F.convS AM.convS; simp only [e_addRow, e_itemsOf, e_maxBytes, e_bytesOf, mapR_eq, aget_eq, aset_eq, ltI_eq, eqI_eq, wrapI_eq] <;> rfl
theorem e_notInt : @F.notInt = @AM.notInt := by
 first
 | rfl
 | (repeat (apply funext; intro)); unfold F.notInt AM.notInt; simp only [aget_eq, aset_eq, ltI_eq, eqI_eq, wrapI_eq] <;> rfl
theorem e_opds : @F.opds = @AM.opds := by
 first
 | rfl
 | (repeat (apply funext; intro)); unfold F.opds AM.opds; simp only [e_opd, mapR_eq, aget_eq, aset_eq, ltI_eq, eqI_eq, wrapI_eq] <;> rfl
theorem e_callS : @F.callS = @AM.callS := by
 first
 | rfl
 | (repeat (apply funext; intro)); unfold F.callS AM.callS; simp only [e_opd, e_rho, e_exps, e_appendV, e_copyV, e_clearV, e_notInt, e_opds, appR_eq, aget_eq, aset_eq, ltI_eq, eqI_eq, wrapI_eq] <;> rfl
theorem e_fillA : @F.fillA = @AM.fillA := by
 funext sz is
 induction is with
 | nil => funext vs l; cases vs <;> rfl
 | cons i is ih =>
  funext vs l
  cases vs with
  | nil => rfl
  | cons v vs =>
   rw [AM.fillA]
   simp only [← ih, ← lenR_eq, ← setR_eq]
   rfl
theorem e_keyFits : @F.keyFits = @AM.keyFits := by
 first
 | rfl
 | (repeat (apply funext; intro)); unfold F.keyFits AM.keyFits; simp only [aget_eq, aset_eq, ltI_eq, eqI_eq, wrapI_eq] <;> rfl
theorem e_sameK : @F.sameK = @AM.sameK := by
 funext x y
 cases x <;> cases y <;> first | rfl | simp only [F.sameK, AM.sameK, eqI_eq]
theorem e_findV : @F.findV = @AM.findV := by
 funext k l
 induction l with
 | nil => rfl
 | cons x l ih =>
  funext i
  rw [AM.findV]
  simp only [← ih, ← e_sameK]
  rfl
theorem e_lookV : @F.lookV = @AM.lookV := by
 first
 | rfl
 | (repeat (apply funext; intro)); unfold F.lookV AM.lookV; simp only [e_zeroV, e_keyFits, e_findV, nthR_eq, aget_eq, aset_eq, ltI_eq, eqI_eq, wrapI_eq] <;> rfl
theorem e_layM : @F.layM = @AM.layM := by
 first
 | rfl
 | (repeat (apply funext; intro)); unfold F.layM AM.layM; simp only [e_setRow, e_exp, e_keyFits, e_findV, appR_eq, nthR_eq, setR_eq, aget_eq, aset_eq, ltI_eq, eqI_eq, wrapI_eq] <;> rfl
theorem e_stepG : @F.stepG = @AM.stepG := by
 first
 | rfl
 | (repeat (apply funext; intro)); unfold F.stepG AM.stepG; simp only [e_noLocR, e_opd, e_rho, e_getRow, e_setRow, e_addRow, e_szOf, e_zeroV, e_elemT, e_lenIs, e_layE, e_partV, e_setAt, e_fillP, e_exp, e_exps, e_flat, e_makeV, e_convS, e_opds, e_callS, e_fillA, e_lookV, e_layM, lenR_eq, allR_eq, nthR_eq, repR_eq, aget_eq, aset_eq, ltI_eq, eqI_eq, wrapI_eq] <;> rfl
theorem e_stepV : @F.stepV = @AM.stepV := by
 first
 | rfl
 | (repeat (apply funext; intro)); unfold F.stepV AM.stepV; simp only [e_rho, e_lcf, e_locV, e_applyL, e_stepG, aget_eq, aset_eq, ltI_eq, eqI_eq, wrapI_eq] <;> rfl
theorem e_putV : @F.putV = @AM.putV := by
 first
 | rfl
 | (repeat (apply funext; intro)); unfold F.putV AM.putV; simp only [aget_eq, aset_eq, ltI_eq, eqI_eq, wrapI_eq] <;> rfl
theorem e_wantedV : @F.wantedV = @AM.wantedV := by
 first
 | rfl
 | (repeat (apply funext; intro)); unfold F.wantedV AM.wantedV; simp only [aget_eq, aset_eq, ltI_eq, eqI_eq, wrapI_eq] <;> rfl
theorem e_oneV : @F.oneV = @AM.oneV := by
 first
 | rfl
 | (repeat (apply funext; intro)); unfold F.oneV AM.oneV; simp only [e_stepV, e_putV, aget_eq, aset_eq, ltI_eq, eqI_eq, wrapI_eq] <;> rfl
theorem e_opsV : @F.opsV = @AM.opsV := by
 funext P C call gl all l
 induction l with
 | nil => rfl
 | cons o l ih =>
  funext st
  rw [AM.opsV]
  simp only [← ih, ← e_wantedV, ← e_rho, ← e_putV, ← e_oneV]
  rfl
theorem e_loopV : @F.loopV = @AM.loopV := by
 funext body n
 induction n with
 | zero => rfl
 | succ n ih =>
  funext st
  rw [AM.loopV]
  simp only [← ih]
  rfl
theorem e_quiet1 : @F.quiet1 = @AM.quiet1 := by
 first
 | rfl
 | (repeat (apply funext; intro)); unfold F.quiet1 AM.quiet1; simp only [aget_eq, aset_eq, ltI_eq, eqI_eq, wrapI_eq] <;> rfl
theorem e_quiet : @F.quiet = @AM.quiet := by
 first
 | rfl
 | (repeat (apply funext; intro)); unfold F.quiet AM.quiet; simp only [e_quiet1, allR_eq, aget_eq, aset_eq, ltI_eq, eqI_eq, wrapI_eq] <;> rfl
theorem e_sliceFoot : @F.sliceFoot = @AM.sliceFoot := by
 first
 | rfl
 | (repeat (apply funext; intro)); unfold F.sliceFoot AM.sliceFoot; simp only [aget_eq, aset_eq, ltI_eq, eqI_eq, wrapI_eq] <;> rfl
theorem e_itemsFoot : @F.itemsFoot = @AM.itemsFoot := by
 first
 | rfl
 | (repeat (apply funext; intro)); unfold F.itemsFoot AM.itemsFoot; simp only [aget_eq, aset_eq, ltI_eq, eqI_eq, wrapI_eq] <;> rfl
theorem e_farX : @F.farX = @AM.farX := by
 first
 | rfl
 | (repeat (apply funext; intro)); unfold F.farX AM.farX; simp only [aget_eq, aset_eq, ltI_eq, eqI_eq, wrapI_eq] <;> rfl
theorem e_itemsLoc : @F.itemsLoc = @AM.itemsLoc := by
 first
 | rfl
 | (repeat (apply funext; intro)); unfold F.itemsLoc AM.itemsLoc; simp only [aget_eq, aset_eq, ltI_eq, eqI_eq, wrapI_eq] <;> rfl
theorem e_immX : @F.immX = @AM.immX := by
 first
 | rfl
 | (repeat (apply funext; intro)); unfold F.immX AM.immX; simp only [aget_eq, aset_eq, ltI_eq, eqI_eq, wrapI_eq] <;> rfl
theorem e_appFoot : @F.appFoot = @AM.appFoot := by
 first
 | rfl
 | (repeat (apply funext; intro)); unfold F.appFoot AM.appFoot; simp only [e_opd, e_sliceFoot, e_itemsFoot, e_farX, e_itemsLoc, e_immX, appR_eq, aget_eq, aset_eq, ltI_eq, eqI_eq, wrapI_eq] <;> rfl
theorem e_convFoot : @F.convFoot = @AM.convFoot := by
 first
 | rfl
 | (repeat (apply funext; intro)); unfold F.convFoot AM.convFoot; simp only [aget_eq, aset_eq, ltI_eq, eqI_eq, wrapI_eq] <;> rfl
theorem e_footV : @F.footV = @AM.footV := by
 first
 | rfl
 | (repeat (apply funext; intro)); unfold F.footV AM.footV; simp only [e_opd, e_locV, e_opds, e_quiet, e_appFoot, e_convFoot, allR_eq, aget_eq, aset_eq, ltI_eq, eqI_eq, wrapI_eq] <;> rfl
theorem e_settle : @F.settle = @AM.settle := by
 first
 | rfl
 | (repeat (apply funext; intro)); unfold F.settle AM.settle; simp only [lenR_eq, aget_eq, aset_eq, ltI_eq, eqI_eq, wrapI_eq] <;> rfl
theorem getD0 (acc : List Nat) : ∀ n, (List.rec (motive := fun _ => Nat) 0 (fun x _ _ => x) (dropR acc n) : Nat) = acc.getD n 0 := by
 induction acc with
 | nil => intro n; rfl
 | cons a l ih =>
  intro n
  cases n with
  | zero => rfl
  | succ n => rw [List.getD_cons_succ, ← ih n]; rfl
theorem e_maskOf : @F.maskOf = @AM.maskOf := by
 funext acc l
 induction l with
 | nil => rfl
 | cons e l ih => rw [AM.maskOf, ← ih, ← getD0]; rfl
theorem e_masks : @F.masks = @AM.masks := by
 funext l
 induction l with
 | nil => rfl
 | cons o l ih =>
  funext acc
  rw [AM.masks, ← ih, ← appR_eq, ← e_maskOf]; rfl
theorem e_behind : @F.behind = @AM.behind := by
 first
 | rfl
 | (repeat (apply funext; intro)); unfold F.behind AM.behind; simp only [e_masks, aget_eq, aset_eq, ltI_eq, eqI_eq, wrapI_eq] <;> rfl
theorem e_stopOp : @F.stopOp = @AM.stopOp := by
 first
 | rfl
 | (repeat (apply funext; intro)); unfold F.stopOp AM.stopOp; simp only [aget_eq, aset_eq, ltI_eq, eqI_eq, wrapI_eq] <;> rfl
theorem e_consF : @F.consF = @AM.consF := by
 first
 | rfl
 | (repeat (apply funext; intro)); unfold F.consF AM.consF; simp only [aget_eq, aset_eq, ltI_eq, eqI_eq, wrapI_eq] <;> rfl
theorem e_drawOps : @F.drawOps = @AM.drawOps := by
 funext P C call gl all l
 induction l with
 | nil => rfl
 | cons o l ih =>
  funext k sp st
  rw [AM.drawOps]
  simp only [← ih, ← e_wantedV, ← e_rho, ← e_lcf, ← e_putV, ← e_oneV, ← e_footV, ← e_settle, ← e_behind, ← e_consF, ← e_stopOp]
  rfl
theorem e_traceless : @F.traceless = @AM.traceless := by
 funext m fs
 induction fs with
 | nil => rfl
 | cons f fs ih => funext k; rw [AM.traceless, ← ih]; rfl
theorem e_killV : @F.killV = @AM.killV := by
 funext l
 induction l with
 | nil => rfl
 | cons o l ih => funext st; rw [AM.killV, ← ih, ← e_putV]; rfl
theorem e_disj : @F.disj = @AM.disj := by
 funext a b
 induction a with
 | nil => rfl
 | cons s a ih => rw [AM.disj, ← ih, ← allR_eq]; rfl
theorem e_indep : @F.indep = @AM.indep := by
 first
 | rfl
 | (repeat (apply funext; intro)); unfold F.indep AM.indep; simp only [e_disj, aget_eq, aset_eq, ltI_eq, eqI_eq, wrapI_eq] <;> rfl
theorem e_pairsOk : @F.pairsOk = @AM.pairsOk := by
 funext fs l
 induction l with
 | nil => rfl
 | cons p l ih =>
  obtain ⟨i, j⟩ := p
  rw [AM.pairsOk]
  simp only [← ih, ← nthR_eq, ← e_indep]
  rfl
theorem e_anyFar : @F.anyFar = @AM.anyFar := by
 funext fs
 induction fs with
 | nil => funext os; cases os <;> rfl
 | cons f fs ih =>
  funext os
  cases os with
  | nil => rfl
  | cons o os => rw [AM.anyFar, ← ih]; rfl
theorem e_endV : @F.endV = @AM.endV := by
 first
 | rfl
 | (repeat (apply funext; intro)); unfold F.endV AM.endV; simp only [e_masks, e_traceless, e_killV, e_pairsOk, e_anyFar, aget_eq, aset_eq, ltI_eq, eqI_eq, wrapI_eq] <;> rfl
theorem e_regionV : @F.regionV = @AM.regionV := by
 first
 | rfl
 | (repeat (apply funext; intro)); unfold F.regionV AM.regionV; simp only [e_opsV, e_drawOps, e_endV, aget_eq, aset_eq, ltI_eq, eqI_eq, wrapI_eq] <;> rfl
theorem e_codeV : @F.codeV = @AM.codeV := by
 funext P C call f fuel c
 induction c with
 | region id ops draw => funext st; rw [AM.codeV, ← e_regionV]; rfl
 | seq a b iha ihb => funext st; rw [AM.codeV]; simp only [← iha, ← ihb]; rfl
 | cond c a b iha ihb => funext st; rw [AM.codeV]; simp only [← iha, ← ihb, ← e_opd, ← e_rho]; rfl
 | block id b ih => funext st; rw [AM.codeV]; simp only [← ih]; rfl
 | loop b ih => funext st; rw [AM.codeV]; simp only [← ih, ← e_loopV]; rfl
 | _ => rfl
theorem e_resV : @F.resV = @AM.resV := by
 funext P st l
 induction l with
 | nil => rfl
 | cons r l ih =>
  cases r with
  | tmp t => rw [AM.resV]; simp only [← ih, ← e_rho]; rfl
  | cell a t => rw [AM.resV]; simp only [← ih, ← e_rho, ← e_getRow, ← e_partV]; rfl
theorem e_startFrom : @F.startFrom = @AM.startFrom := by
 funext k l
 induction l generalizing k with
 | nil => rfl
 | cons v l ih =>
  funext t
  rw [AM.startFrom, ← ih, ← aset_eq]; rfl
theorem e_startTm : @F.startTm = @AM.startTm := by
 first
 | rfl
 | (repeat (apply funext; intro)); unfold F.startTm AM.startTm; simp only [e_startFrom, aget_eq, aset_eq, ltI_eq, eqI_eq, wrapI_eq] <;> rfl
theorem e_cleanB : @F.cleanB = @AM.cleanB := by
 first
 | rfl
 | (repeat (apply funext; intro)); unfold F.cleanB AM.cleanB; simp only [lenR_eq, aget_eq, aset_eq, ltI_eq, eqI_eq, wrapI_eq] <;> rfl
theorem e_backHp : @F.backHp = @AM.backHp := by
 first
 | rfl
 | (repeat (apply funext; intro)); unfold F.backHp AM.backHp; simp only [e_noRefsLR, e_cleanB, aget_eq, aset_eq, ltI_eq, eqI_eq, wrapI_eq] <;> rfl
theorem e_bodyV : @F.bodyV = @AM.bodyV := by
 first
 | rfl
 | (repeat (apply funext; intro)); unfold F.bodyV AM.bodyV; simp only [e_exps, e_codeV, e_resV, e_startTm, e_backHp, aget_eq, aset_eq, ltI_eq, eqI_eq, wrapI_eq] <;> rfl
end Go.AM.F
end

section
namespace Go.AM
open Go
def St.as (st : St) (T : Tr V) : St := { st with tm := T }
def Res.as (r : Res) (T : Tr V) : Res := match r with
 | .val v st => .val v (st.as T)
 | .enter f l st => .enter f l (st.as T)
 | .panic v st => .panic v (st.as T)
def asV {α : Type} (p : α × St) (T : Tr V) : α × St := (p.1, p.2.as T)
section
variable {P : Program} {C : Cfg} {gl : Nat → Bool} {T : Tr V}
theorem as_lc (st : St) : (st.as T).lc = st.lc := rfl
theorem getRow_as (st : St) (r : Ref) : getRow (st.as T) r = getRow st r := by cases r <;> rfl
theorem setRow_as (st : St) (r : Ref) (row : Row) : setRow (st.as T) r row = (setRow st r row).as T := by cases r <;> rfl
theorem addRow_as (st : St) (g : Bool) (s : Nat) (row : Row) : addRow (st.as T) g s row = asV (addRow st g s row) T := by cases g <;> rfl
theorem itemsOf_as (st : St) (v : V) : itemsOf (st.as T) v = itemsOf st v := by
 cases v <;> first | rfl | (simp only [itemsOf, getRow_as])
theorem freeze_as (st : St) (v : V) : freeze (st.as T) v = (freeze st v).map (asV · T) := by
 cases v with
 | arr r off len lim sz ag =>
  simp only [freeze, getRow_as, itemsOf_as]
  cases getRow st r with
  | none => rfl
  | some row =>
   cases row with
   | cells b cs =>
    simp only []
    cases itemsOf st (.arr r off len lim sz ag) with
    | none => rfl
    | some l => simp only []; cases V.noRefsL l <;> simp [setRow_as, asV]
   | _ => rfl
 | _ => rfl
theorem exp1_as (fz : Bool) (st : St) (v : V) : exp1 fz (st.as T) v = (exp1 fz st v).map (asV · T) := by
 cases v with
 | arr r off len lim sz ag =>
  simp only [exp1, freeze_as]
  cases (fz || isLoc r) <;> rfl
 | slice tok f sz l =>
  cases tok with
  | none => rfl
  | some r => cases r with
   | loc s g => rfl
   | glob r => cases fz <;> rfl
 | _ => simp only [exp1]; cases (V.live _ && V.noLoc _) <;> rfl
theorem expL_as (fz : Bool) : ∀ (l : List V) (st : St), expL fz (st.as T) l = (expL fz st l).map (asV · T)
 | [], st => rfl
 | v :: l, st => by
  simp only [expL, exp1_as]
  cases exp1 fz st v with
  | none => rfl
  | some p =>
   obtain ⟨u, s⟩ := p
   simp only [Option.map_some, asV, expL_as fz l s]
   cases expL fz s l <;> rfl
theorem exp_as (fz : Bool) (st : St) (v : V) : exp fz (st.as T) v = (exp fz st v).map (asV · T) := by
 cases v with
 | agg cs =>
  simp only [exp, expL_as]
  cases expL fz st cs <;> rfl
 | _ => simp only [exp]; exact exp1_as _ _ _
theorem exps_as (fz : Bool) : ∀ (l : List V) (st : St), exps fz (st.as T) l = (exps fz st l).map (asV · T)
 | [], st => rfl
 | v :: l, st => by
  simp only [exps, exp_as]
  cases exp fz st v with
  | none => rfl
  | some p =>
   obtain ⟨u, s⟩ := p
   simp only [Option.map_some, asV, exps_as fz l s]
   cases exps fz s l <;> rfl
theorem growArr_as (st : St) (d : Nat) (cs : List V) (len sz : Nat) (ag : Bool) : growArr gl (st.as T) d cs len sz ag = (growArr gl st d cs len sz ag).map (·.as T) := by
 simp only [growArr, addRow_as]
 cases (gl d && !V.noLocL cs) <;> rfl
theorem growImm_as (st : St) (d sz : Nat) (l : List V) : growImm gl (st.as T) d sz l = (growImm gl st d sz l).map (·.as T) := by
 simp only [growImm, addRow_as]; rfl
theorem map_cond {α β : Type} (f : α → β) (b : Bool) (x y : Option α) : (bif b then x else y).map f = bif b then x.map f else y.map f := by cases b <;> rfl
theorem appendV_as (st : St) (d : Nat) (t : TypeId) (x y : V) : appendV P C gl (st.as T) d t x y = (appendV P C gl st d t x y).map (·.as T) := by
 unfold appendV
 simp only [itemsOf_as]
 cases elemT P t with
 | none => rfl
 | some e =>
  simp only []
  cases layE P e with
  | none => rfl
  | some p =>
   obtain ⟨sz, ag⟩ := p
   cases byteE P e with
   | none => rfl
   | some bytes =>
    cases itemsOf st y with
    | none => rfl
    | some ys =>
     simp only []
     rw [map_cond]
     refine congrArg (fun q => bif _ then q else _) ?_
     cases x with
     | nils =>
      simp only []
      cases ys with
      | nil => rfl
      | cons y0 ys => simp only [map_cond, growArr_as, growImm_as, Option.map_none]
     | slice tok full sz' l =>
      simp only []
      rw [map_cond]
      refine congrArg (fun q => bif _ then q else _) ?_
      cases ys with
      | nil => rfl
      | cons y0 ys =>
       simp only [map_cond, growArr_as, growImm_as, Option.map_none]
       cases tok with
       | none => rfl
       | some r =>
        simp only [getRow_as]
        cases getRow st r with
        | none => rfl
        | some row =>
         cases row with
         | tok => simp only [setRow_as, growImm_as]
         | _ => rfl
     | arr r off len lim sz' ag' =>
      simp only [getRow_as]
      rw [map_cond]
      refine congrArg (fun q => bif _ then q else _) ?_
      cases getRow st r with
      | none => rfl
      | some row =>
       cases row with
       | cells frz cs =>
        simp only []
        rw [map_cond]
        refine congrArg (fun q => bif _ then q else _) ?_
        cases ys with
        | nil => rfl
        | cons y0 ys =>
         simp only [map_cond, Option.map_none]
         refine congrArg (fun q => bif _ then _ else q) ?_
         cases lim with
         | some c =>
          simp only [map_cond, Option.map_none, growArr_as]
          cases setAt cs (off + len * sz) (flat (y0 :: ys)) <;> simp only [setRow_as, Option.map_some, Option.map_none] <;> rfl
         | none =>
          simp only [map_cond, Option.map_none, growArr_as, setRow_as]
          cases setAt cs (off + len * sz) (flat (y0 :: ys)) <;> rfl
       | _ => rfl
     | _ => rfl
theorem makeV_as (st : St) (d : Nat) (t : TypeId) (x y : V) : makeV P gl (st.as T) d t x y = (makeV P gl st d t x y).map (·.as T) := by
 unfold makeV
 split
 ·split
  ·simp only [addRow_as, map_cond]; rfl
  ·rfl
 ·rfl
theorem copyV_as (st : St) (t : TypeId) (x y : V) : copyV P (st.as T) t x y = (copyV P st t x y).map (·.as T) := by
 unfold copyV
 simp only [itemsOf_as]
 cases elemT P t with
 | none => rfl
 | some e =>
  simp only []
  split
  ·simp only [getRow_as]
   rw [map_cond]
   refine congrArg (fun q => bif _ then q else _) ?_
   split
   ·split
    ·simp only [map_cond, setRow_as]; rfl
    ·rfl
   ·rfl
  ·rfl
theorem clearV_as (st : St) (t : TypeId) (x : V) : clearV P (st.as T) t x = (clearV P st t x).map (·.as T) := by
 unfold clearV
 cases elemT P t with
 | none => rfl
 | some e =>
  simp only []
  split
  ·simp only [getRow_as]
   rw [map_cond]
   refine congrArg (fun q => bif _ then q else _) ?_
   split
   ·split
    ·simp only [setRow_as]; rfl
    ·rfl
   ·rfl
  ·rfl
theorem convS_as (st : St) (d : Nat) (s t : TypeId) (x : V) : convS P C gl (st.as T) d s t x = (convS P C gl st d s t x).map (·.as T) := by
 unfold convS
 simp only [itemsOf_as]
 split
 ·split
  ·split
   ·split
    ·rfl
    ·simp only [Option.map_map]; rfl
   ·rfl
  ·rfl
 ·split
  ·simp only [addRow_as, map_cond]; rfl
  ·rfl
 ·rfl
def callR (P : Program) (C : Cfg) (gl : Nat → Bool) (ρ : Nat → V) (st : St) (dst : Option Nat) (c : Call) : Option Res :=
 let args := opds ρ c.args.toList
 match c.callee with
 | .value f => (match opd ρ f with
  | .fn (.func g) first caps => (match exps false st (first ++ args ++ caps) with
   | some (l, st') => some (.enter g l st')
   | none => none)
  | _ => none)
 | .builtin b => (match c.argTypes[0]?, dst with
  | some t, some d => (match b, args with
   | .append, [x, y] => bif notInt P c.argTypes[1]? then appendV P C gl st d t x y else none
   | .copy, [x, y] => copyV P st t x y
   | _, _ => none)
  | some t, none => (match b, args with
   | .copy, [x, y] => copyV P st t x y
   | .clear, [x] => clearV P st t x
   | _, _ => none)
  | _, _ => none)
 | .invoke _ _ => none
theorem callS_R (st : St) (dst : Option Nat) (c : Call) : callS P C gl st dst c = callR P C gl st.ρ st dst c := rfl
theorem callR_as (ρ : Nat → V) (st : St) (dst : Option Nat) (c : Call) : callR P C gl ρ (st.as T) dst c = (callR P C gl ρ st dst c).map (·.as T) := by
 unfold callR
 simp only [exps_as, appendV_as, copyV_as, clearV_as]
 split
 ·split
  ·cases exps false st _ <;> rfl
  ·rfl
 ·split
  ·split
   ·rw [map_cond]; rfl
   ·rfl
   ·rfl
  ·split <;> rfl
  ·rfl
 ·rfl
end
end Go.AM
end

section
namespace Go.AM
open Go
def stepR (P : Program) (C : Cfg) (gl : Nat → Bool) (ρ : Nat → V) (st : St) (o : Oper) : Option Res :=
 match o.op with
 | .load t x => (match opd ρ x with
  | .ptr (.glob r) off => (match st.hp.rows[r]? with
   | some (.cells _ cs) => (partV P t cs off).map (.val · st)
   | _ => none)
  | _ => none)
 | .store t a x => (match opd ρ a with
  | .ptr (.glob r) off => (match st.hp.rows[r]?, exp false st (opd ρ x) with
   | some (.cells false _), some (v, st') => (match st'.hp.rows[r]? with
    | some (.cells false cs) => bif v.cells.all V.cellOk && lenIs P t v.cells.length then
      (match setAt cs off v.cells with
      | some cs' => some (.val (.tuple []) (setRow st' (.glob r) (.cells false cs')))
      | none => none)
     else none
    | _ => none)
   | _, _ => none)
  | _ => none)
 | .alloc t => (match o.dst with
  | none => none
  | some d => match zeroV P t, szOf P t with
   | some z, some n => bif gl d && z.live && Nat.beq z.cells.length n then
     (let (r, st') := addRow st true d (.cells false z.cells)
      some (.val (.ptr r 0) st'))
    else none
   | _, _ => none)
 | .box _ x => (match o.dst with
  | none => none
  | some d => match exp false st (opd ρ x) with
   | some (v, st') => bif gl d then
     (let (r, st'') := addRow st' true d (.cells false v.cells)
      some (.val (.ptr r 0) st''))
    else none
   | none => none)
 | .build t ps => (match P.underlying t, zeroV P t, exps true st (opds ρ (ps.toList.map (·.2))) with
  | some (.struct fs), some z, some (l, st') =>
   let ρ' : Nat → V := fun i => l.getD i .dead
   bif !(z.live && fs.all (fun f => (P.info? f.type).isSome)) then none else
   (match fillP P t ρ' (ps.toList.zipIdx.map fun (p, i) => (p.1, Operand.tmp i)) z.cells with
   | some cs => some (.val (.agg cs) st')
   | none => none)
  | _, _, _ => none)
 | .buildSlice t len ps => (match elemT P t, o.dst with
  | some e, some d => (match layE P e, zeroV P e, exps false st (opds ρ (ps.toList.map (·.2))) with
   | some (n, ag), some z, some (l, st') =>
    bif C.isArr t && Nat.ble (len * n) 16777216 && z.live && Nat.beq z.cells.length n && (ag || Nat.beq n 1) then
     (match fillA n (ps.toList.map (·.1)) l (List.replicate len z) with
     | some items => (let (r, st'') := addRow st' (gl d) d (.cells false (flat items))
       some (.val (.arr r 0 len (some len) n ag) st''))
     | none => none)
    else none
   | _, _, _ => none)
  | _, _ => none)
 | .makeSlice t l c => (match o.dst with
  | some d => makeV P gl st d t (opd ρ l) (opd ρ c)
  | none => none)
 | .convert s t x => (match o.dst with
  | some d => convS P C gl st d s t (opd ρ x)
  | none => none)
 | .next x isStr => (match opd ρ x with
  | .ptr r 0 => (match getRow st r, isStr with
   | some (.iter s pos), true =>
    bif Nat.blt pos s.n then
     (let (c, width) := s.rune pos
      some (.val (.tuple [.bool true, .int .i64 pos, .int .i32 c]) (setRow st r (.iter s (pos + width)))))
    else some (.val (.tuple [.bool false]) st)
   | _, _ => none)
  | _ => none)
 | .call c => callR P C gl ρ st o.dst c
 | .panic x => (match opd ρ x with
  | .iface t v => bif v.noLoc then some (.panic (.iface t v) st) else none
  | _ => none)
 | .makeMap _ none => (match o.dst with
  | some d => (let (r, st') := addRow st true d (.mp [] [])
    some (.val (.mref r) st'))
  | none => none)
 | .lookup t x i ok => (lookV P t st.hp (opd ρ x) (opd ρ i) ok).map (.val · st)
 | .mapUpdate t m k x => layM P t st (opd ρ m) (opd ρ k) (opd ρ x)
 | .insert t m k x => layM P t st (opd ρ m) (opd ρ k) (opd ρ x)
 | _ => none
section
variable {P : Program} {C : Cfg} {gl : Nat → Bool} {T : Tr V}
theorem stepG_R (st : St) (o : Oper) : stepG P C gl st o = stepR P C gl st.ρ st o := rfl
theorem layM_as (t : TypeId) (st : St) (x k v : V) : layM P t (st.as T) x k v = (layM P t st x k v).map (·.as T) := by
 unfold layM
 rw [exp_as]
 cases x with
 | mref r =>
  cases r with
  | loc s g => cases exp false st v <;> rfl
  | glob r =>
   cases exp false st v with
   | none => rfl
   | some p =>
    obtain ⟨u, s⟩ := p
    simp only [Option.map_some, asV]
    show (match s.hp.rows[r]?, P.underlying t with
     | some (.mp ks vs), some (.map kt _) => bif keyFits P kt k then (match findV k ks 0 with
      | some (some j) => some (Res.val (.tuple []) (setRow (s.as T) (.glob r) (.mp (ks.set j k) (vs.set j u))))
      | some none => some (Res.val (.tuple []) (setRow (s.as T) (.glob r) (.mp (ks ++ [k]) (vs ++ [u]))))
      | none => none) else none
     | _, _ => none) = _
    cases s.hp.rows[r]? with
    | none => rfl
    | some row =>
     cases row with
     | mp ks vs =>
      cases P.underlying t with
      | none => rfl
      | some d =>
       cases d with
       | map kt et =>
        simp only [map_cond]
        cases keyFits P kt k with
        | false => rfl
        | true =>
         simp only [cond_true]
         cases findV k ks 0 with
         | none => rfl
         | some q => cases q <;> rfl
       | _ => rfl
     | _ => rfl
 | _ => cases exp false st v <;> rfl
theorem stepR_as (ρ : Nat → V) (st : St) (o : Oper) : stepR P C gl ρ (st.as T) o = (stepR P C gl ρ st o).map (·.as T) := by
 unfold stepR
 cases o.op with
 | load t x =>
  simp only []
  split
  ·rename_i r off _
   show (match st.hp.rows[r]? with | some (Row.cells _ cs) => (partV P t cs off).map (Res.val · (st.as T)) | _ => none) = _
   cases st.hp.rows[r]? with
   | none => rfl
   | some row =>
    cases row with
    | cells b cs => simp only []; cases partV P t cs off <;> rfl
    | _ => rfl
  ·rfl
 | store t a x =>
  simp only [exp_as]
  split
  ·rename_i r off _
   show (match st.hp.rows[r]?, (exp false st (opd ρ x)).map (asV · T) with
    | some (.cells false _), some (v, st') => (match st'.hp.rows[r]? with
     | some (.cells false cs) => bif v.cells.all V.cellOk && lenIs P t v.cells.length then
       (match setAt cs off v.cells with
       | some cs' => some (Res.val (.tuple []) (setRow st' (.glob r) (.cells false cs')))
       | none => none)
      else none
     | _ => none)
    | _, _ => none) = _
   cases st.hp.rows[r]? with
   | none => rfl
   | some row =>
    cases row with
    | cells frz cs0 =>
     cases frz with
     | true => rfl
     | false =>
      cases exp false st (opd ρ x) with
      | none => rfl
      | some p =>
       obtain ⟨v, s⟩ := p
       simp only [Option.map_some, asV]
       show (match s.hp.rows[r]? with
        | some (.cells false cs) => bif v.cells.all V.cellOk && lenIs P t v.cells.length then
          (match setAt cs off v.cells with
          | some cs' => some (Res.val (.tuple []) (setRow (s.as T) (.glob r) (.cells false cs')))
          | none => none)
         else none
        | _ => none) = _
       split
       ·rw [map_cond]
        refine congrArg (fun q => bif _ then q else _) ?_
        cases setAt _ off v.cells <;> rfl
       ·rfl
    | _ => rfl
  ·rfl
 | alloc t =>
  simp only [addRow_as]
  cases o.dst with
  | none => rfl
  | some d =>
   simp only []
   split
   ·rw [map_cond]; rfl
   ·rfl
 | box t x =>
  simp only [exp_as]
  cases o.dst with
  | none => rfl
  | some d =>
   simp only []
   cases exp false st (opd ρ x) with
   | none => rfl
   | some p => obtain ⟨v, s⟩ := p; simp only [Option.map_some, asV, addRow_as, map_cond]; rfl
 | build t ps =>
  simp only [exps_as]
  cases exps true st (opds ρ (ps.toList.map (·.2))) with
  | none => simp only [Option.map_none]; split <;> first | rfl | (rename_i h; simp at h)
  | some p =>
   obtain ⟨l, s⟩ := p
   simp only [Option.map_some, asV]
   split
   ·rename_i fs z l' s' h1 h2 h3
    simp only [Option.some.injEq, Prod.mk.injEq] at h3
    obtain ⟨rfl, rfl⟩ := h3
    simp only [map_cond, Option.map_none, h1, h2]
    refine congrArg (fun q => bif _ then _ else q) ?_
    split <;> rfl
   ·rename_i hn
    split
    ·rename_i fs z l' s' h1 h2 h3
     exact (hn fs z l' (s'.as T) h1 h2 (by simp at h3; rw [h3.1, h3.2])).elim
    ·rfl
 | buildSlice t len ps =>
  simp only [exps_as]
  cases elemT P t with
  | none => rfl
  | some e =>
   cases o.dst with
   | none => rfl
   | some d =>
    simp only []
    cases layE P e with
    | none => rfl
    | some lay =>
     obtain ⟨n, ag⟩ := lay
     cases zeroV P e with
     | none => rfl
     | some z =>
      cases exps false st (opds ρ (ps.toList.map (·.2))) with
      | none => rfl
      | some p =>
       obtain ⟨l, s⟩ := p
       simp only [Option.map_some, asV, map_cond, Option.map_none]
       refine congrArg (fun q => bif _ then q else _) ?_
       split
       ·simp only [addRow_as]; rfl
       ·rfl
 | makeSlice t l c =>
  simp only [makeV_as]
  cases o.dst <;> rfl
 | convert s t x =>
  simp only [convS_as]
  cases o.dst <;> rfl
 | next x isStr =>
  simp only [getRow_as]
  split
  ·split
   ·rw [map_cond]; simp only [setRow_as]; rfl
   ·rfl
  ·rfl
 | call c => simp only [callR_as]
 | makeMap t rs =>
  cases rs with
  | some x => rfl
  | none => cases o.dst <;> rfl
 | lookup t x i b =>
  show (lookV P t st.hp (opd ρ x) (opd ρ i) b).map (Res.val · (st.as T)) = ((lookV P t st.hp (opd ρ x) (opd ρ i) b).map (Res.val · st)).map (·.as T)
  cases lookV P t st.hp (opd ρ x) (opd ρ i) b <;> rfl
 | mapUpdate t m k x => simp only [layM_as]
 | insert t m k x => simp only [layM_as]
 | panic x =>
  simp only []
  split
  ·rw [map_cond]; rfl
  ·rfl
 | _ => rfl
theorem opds_congr {ρ σ : Nat → V} {l : List Operand} (h : ∀ x ∈ l, opd ρ x = opd σ x) : opds ρ l = opds σ l := List.map_congr_left h
theorem stepR_congr {ρ σ : Nat → V} {st : St} {o : Oper} (h : Agree ρ σ o) : stepR P C gl ρ st o = stepR P C gl σ st o := by
 unfold Agree at h
 unfold stepR
 cases ho : o.op with
 | load t x => simp only [ho, Op.operands] at h; simp only [h x (by simp)]
 | store t a x => simp only [ho, Op.operands] at h; simp only [h a (by simp), h x (by simp)]
 | box t x => simp only [ho, Op.operands] at h; simp only [h x (by simp)]
 | build t ps =>
  simp only [ho, Op.operands] at h
  have : opds ρ (ps.toList.map (·.2)) = opds σ (ps.toList.map (·.2)) := opds_congr (fun x hx => h x (by simpa using hx))
  simp only [this]
 | buildSlice t len ps =>
  simp only [ho, Op.operands] at h
  have : opds ρ (ps.toList.map (·.2)) = opds σ (ps.toList.map (·.2)) := opds_congr (fun x hx => h x (by simpa using hx))
  simp only [this]
 | makeSlice t l c => simp only [ho, Op.operands] at h; simp only [h l (by simp), h c (by simp)]
 | convert s t x => simp only [ho, Op.operands] at h; simp only [h x (by simp)]
 | next x isStr => simp only [ho, Op.operands] at h; simp only [h x (by simp)]
 | panic x => simp only [ho, Op.operands] at h; simp only [h x (by simp)]
 | makeMap t rs => cases rs <;> rfl
 | lookup t x i b => simp only [ho, Op.operands] at h; simp only [h x (by simp), h i (by simp)]
 | mapUpdate t m k x => simp only [ho, Op.operands] at h; simp only [h m (by simp), h k (by simp), h x (by simp)]
 | insert t m k x => simp only [ho, Op.operands] at h; simp only [h m (by simp), h k (by simp), h x (by simp)]
 | call c =>
  simp only [ho, Op.operands, Call.operands] at h
  simp only [callR]
  have ha : opds ρ c.args.toList = opds σ c.args.toList := opds_congr (fun x hx => h x (by simp [hx]))
  rw [ha]
  cases hc : c.callee with
  | value f => simp only [h f (by simp [hc])]
  | _ => rfl
 | _ => rfl
theorem locV_congr' {ρ σ : Nat → V} {lc : Nat → Nat × Row} {o : Oper} (h : Agree ρ σ o) : locV P C gl ρ lc o = locV P C gl σ lc o := by
 have hp := pureV_congr (P := P) (C := C) h
 unfold Agree at h
 unfold locV
 cases ho : o.op with
 | load t x => simp only [ho, Op.operands] at h; simp only [h x (by simp)]
 | store t a x => simp only [ho, Op.operands] at h; simp only [h a (by simp), h x (by simp)]
 | alloc t => rfl
 | box t x => simp only [ho, Op.operands] at h; simp only [h x (by simp)]
 | range t x => simp only [ho, Op.operands] at h; simp only [h x (by simp)]
 | _ => rw [ho] at hp; simp only [hp]
theorem stepV_as {st : St} {o : Oper} (h : Agree st.ρ (St.ρ (st.as T)) o) : stepV P C gl (st.as T) o = (stepV P C gl st o).map (·.as T) := by
 unfold stepV
 rw [stepG_R, stepG_R, stepR_as, ← stepR_congr h, as_lc, ← locV_congr' h]
 cases locV P C gl st.ρ st.lc o with
 | none => rfl
 | some p =>
  obtain ⟨v, u⟩ := p
  cases u with
  | none => rfl
  | some q => rfl
end
end Go.AM
end

section
namespace Go.AM.G
open Go Go.AM
noncomputable section
universe u
variable {α : Type}
def onInt (v : V) (f : IntKind → Int → α) (d : α) : α :=
 V.rec (motive_1 := fun _ => (IntKind → Int → α) → α → α) (motive_2 := fun _ => Unit)
  (fun _ d => d) (fun k n f _ => f k n) (fun _ _ d => d) (fun _ _ d => d) (fun _ d => d) (fun _ _ _ d => d) (fun _ _ _ d => d) (fun _ d => d)
  (fun _ _ _ _ _ _ d => d) (fun _ _ _ _ _ _ _ d => d) (fun _ _ _ _ _ _ d => d) (fun _ d => d) (fun _ _ _ _ d => d) (fun _ d => d) (fun _ _ _ d => d) (fun _ _ _ d => d) (fun _ _ d => d) (fun _ _ d => d) (fun _ d => d)
  () (fun _ _ _ _ => ()) v f d
def onBool (v : V) (f : Bool → α) (d : α) : α :=
 V.rec (motive_1 := fun _ => (Bool → α) → α → α) (motive_2 := fun _ => Unit)
  (fun _ d => d) (fun _ _ _ d => d) (fun b f _ => f b) (fun _ _ d => d) (fun _ d => d) (fun _ _ _ d => d) (fun _ _ _ d => d) (fun _ d => d)
  (fun _ _ _ _ _ _ d => d) (fun _ _ _ _ _ _ _ d => d) (fun _ _ _ _ _ _ d => d) (fun _ d => d) (fun _ _ _ _ d => d) (fun _ d => d) (fun _ _ _ d => d) (fun _ _ _ d => d) (fun _ _ d => d) (fun _ _ d => d) (fun _ d => d)
  () (fun _ _ _ _ => ()) v f d
def onStr (v : V) (f : Str → α) (d : α) : α :=
 V.rec (motive_1 := fun _ => (Str → α) → α → α) (motive_2 := fun _ => Unit)
  (fun _ d => d) (fun _ _ _ d => d) (fun _ _ d => d) (fun s f _ => f s) (fun _ d => d) (fun _ _ _ d => d) (fun _ _ _ d => d) (fun _ d => d)
  (fun _ _ _ _ _ _ d => d) (fun _ _ _ _ _ _ _ d => d) (fun _ _ _ _ _ _ d => d) (fun _ d => d) (fun _ _ _ _ d => d) (fun _ d => d) (fun _ _ _ d => d) (fun _ _ _ d => d) (fun _ _ d => d) (fun _ _ d => d) (fun _ d => d)
  () (fun _ _ _ _ => ()) v f d
def onPtr (v : V) (f : Ref → Nat → α) (g : List V → α) (d : α) : α :=
 V.rec (motive_1 := fun _ => (Ref → Nat → α) → (List V → α) → α → α) (motive_2 := fun _ => Unit)
  (fun _ _ d => d) (fun _ _ _ _ d => d) (fun _ _ _ d => d) (fun _ _ _ d => d) (fun _ _ d => d) (fun r o f _ _ => f r o) (fun cs _ _ g _ => g cs) (fun _ _ d => d)
  (fun _ _ _ _ _ _ _ d => d) (fun _ _ _ _ _ _ _ _ d => d) (fun _ _ _ _ _ _ _ d => d) (fun _ _ d => d) (fun _ _ _ _ _ d => d) (fun _ _ d => d) (fun _ _ _ _ d => d) (fun _ _ _ _ d => d) (fun _ _ _ d => d) (fun _ _ _ d => d) (fun _ _ d => d)
  () (fun _ _ _ _ => ()) v f g d
def onTuple (v : V) (f : List V → α) (d : α) : α :=
 V.rec (motive_1 := fun _ => (List V → α) → α → α) (motive_2 := fun _ => Unit)
  (fun _ d => d) (fun _ _ _ d => d) (fun _ _ d => d) (fun _ _ d => d) (fun _ d => d) (fun _ _ _ d => d) (fun _ _ _ d => d) (fun _ d => d)
  (fun _ _ _ _ _ _ d => d) (fun _ _ _ _ _ _ _ d => d) (fun _ _ _ _ _ _ d => d) (fun _ d => d) (fun _ _ _ _ d => d) (fun _ d => d) (fun _ _ _ d => d) (fun cs _ f _ => f cs) (fun _ _ d => d) (fun _ _ d => d) (fun _ d => d)
  () (fun _ _ _ _ => ()) v f d
def onAgg (v : V) (f : List V → α) (d : α) : α :=
 V.rec (motive_1 := fun _ => (List V → α) → α → α) (motive_2 := fun _ => Unit)
  (fun _ d => d) (fun _ _ _ d => d) (fun _ _ d => d) (fun _ _ d => d) (fun _ d => d) (fun _ _ _ d => d) (fun _ _ _ d => d) (fun _ d => d)
  (fun _ _ _ _ _ _ d => d) (fun _ _ _ _ _ _ _ d => d) (fun _ _ _ _ _ _ d => d) (fun _ d => d) (fun _ _ _ _ d => d) (fun _ d => d) (fun cs _ f _ => f cs) (fun _ _ _ d => d) (fun _ _ d => d) (fun _ _ d => d) (fun _ d => d)
  () (fun _ _ _ _ => ()) v f d
def onSlice (v : V) (f : Nat → List V → α) (g : Ref → Nat → Nat → Nat → Bool → α) (d : α) : α :=
 V.rec (motive_1 := fun _ => (Nat → List V → α) → (Ref → Nat → Nat → Nat → Bool → α) → α → α) (motive_2 := fun _ => Unit)
  (fun _ _ d => d) (fun _ _ _ _ d => d) (fun _ _ _ d => d) (fun _ _ _ d => d) (fun _ _ d => d) (fun _ _ _ _ d => d) (fun _ _ _ _ d => d) (fun _ _ d => d)
  (fun _ _ sz l _ f _ _ => f sz l) (fun r off len _ sz ag _ g _ => g r off len sz ag) (fun _ _ _ _ _ _ _ d => d) (fun _ _ d => d) (fun _ _ _ _ _ d => d) (fun _ _ d => d) (fun _ _ _ _ d => d) (fun _ _ _ _ d => d) (fun _ _ _ d => d) (fun _ _ _ d => d) (fun _ _ d => d)
  () (fun _ _ _ _ => ()) v f g d
def onSome {β : Type} (o : Option β) (f : β → α) (d : α) : α := Option.rec (motive := fun _ => (β → α) → α → α) (fun _ d => d) (fun b f _ => f b) o f d
def onRef (r : Ref) (f : Nat → Nat → α) (g : Nat → α) : α := Ref.rec (motive := fun _ => (Nat → Nat → α) → (Nat → α) → α) (fun s k f _ => f s k) (fun r _ g => g r) r f g
def onCells (r : Row) (f : Bool → List V → α) (d : α) : α :=
 Row.rec (motive := fun _ => (Bool → List V → α) → α → α) (fun _ d => d) (fun b cs f _ => f b cs) (fun _ d => d) (fun _ _ _ d => d) (fun _ _ _ d => d) r f d
def onNat (n : Int) (f : Nat → α) (d : α) : α := Int.rec (motive := fun _ => (Nat → α) → α → α) (fun m f _ => f m) (fun _ _ d => d) n f d
abbrev R := Option (Ex × St)
abbrev K := St → R
def opd (x : Operand) (st : St) : V :=
 Operand.rec (motive := fun _ => St → V) (fun t st => F.getR .dead (path t) st.tm) (fun v _ => absV v) (fun _ _ => .dead) (fun f _ => .fn (.func f) [] []) x st
def ok (d : Option Nat) (st : St) (v : V) (k : K) : R :=
 Option.rec (motive := fun _ => St → V → K → R) (fun st _ k => k st) (fun i st v k => St.rec (motive := fun _ => R) (fun tm loc hp => k ⟨F.putR v (path i) tm, loc, hp⟩) st) d st v k
def okO (d : Option Nat) (st : St) (v : Option V) (k : K) : R := Option.rec (motive := fun _ => Option Nat → St → K → R) (fun _ _ _ => none) (fun v d st k => ok d st v k) v d st k
def ikNum (k : IntKind) : Nat := IntKind.rec (motive := fun _ => Nat) 0 1 2 3 4 5 6 7 k
def int2 (op : BinOp) (k : IntKind) (a b : Int) : Option V :=
 BinOp.rec (motive := fun _ => IntKind → Int → Int → Option V)
  (fun k a b => some (.int k (F.wrapI k (Int.add a b)))) (fun k a b => some (.int k (F.wrapI k (Int.sub a b)))) (fun k a b => some (.int k (F.wrapI k (Int.mul a b))))
  (fun k a b => binInt .quo k a b) (fun k a b => binInt .rem k a b) (fun k a b => binInt .and k a b) (fun k a b => binInt .or k a b) (fun k a b => binInt .xor k a b)
  (fun k a b => shiftV .shl k a b) (fun k a b => shiftV .shr k a b) (fun k a b => binInt .andNot k a b)
  (fun _ a b => some (.bool (F.eqI a b))) (fun _ a b => some (.bool (!F.eqI a b))) (fun _ a b => some (.bool (F.ltI a b))) (fun _ a b => some (.bool (!F.ltI b a)))
  (fun _ a b => some (.bool (F.ltI b a))) (fun _ a b => some (.bool (!F.ltI a b))) op k a b
abbrev Do := Program → Cfg → CallF → (Nat → Bool) → Oper → St → K → R
def next (r : R) (k : K) : R :=
 onSome r (fun p => Ex.rec (motive := fun _ => K → St → R) (fun k st => k st) (fun i _ st => some (.exit i, st)) (fun _ st => some (.ret, st)) (fun v _ st => some (.panic v, st)) p.1 k p.2) none
def slow (P : Program) (C : Cfg) (call : CallF) (gl : Nat → Bool) (o : Oper) (st : St) (k : K) : R := next (F.oneV P C call gl st o) k
def doMove (x : Operand) : Do := fun _ _ _ _ o st k => ok o.dst st (opd x st) k
def bin (P : Program) (op : BinOp) (t : TypeId) (X Y : Operand) (x y : V) : Option V :=
 onInt x (fun k a => onInt y (fun k' b => bif Nat.beq (ikNum k) (ikNum k') then int2 op k a b else F.binV op (.int k a) (.int k' b)) none)
  (onStr x (fun a => onStr y (fun b => strOp op a b) none) (orA (F.eqV op (P.underlying t) (isConst X || isConst Y) x y) fun _ => eqA P op t x y))
def doBin (op : BinOp) (t : TypeId) (x y : Operand) (_ : TypeId) : Do := fun P _ _ _ o st k => okO o.dst st (bin P op t x y (opd x st) (opd y st)) k
def doPick (c a b : Operand) : Do := fun _ _ _ _ o st k => onBool (opd c st) (fun q => Bool.rec (motive := fun _ => R) (ok o.dst st (opd b st) k) (ok o.dst st (opd a st) k) q) none
def un (op : UnOp) (x : V) : Option V := UnOp.rec (motive := fun _ => V → Option V) (fun x => F.unV .neg x) (fun x => F.unV .xor x) (fun x => onBool x (fun b => some (.bool (!b))) none) (fun x => F.unV .plus x) op x
def doUn (op : UnOp) (t : TypeId) (x : Operand) : Do := fun _ _ _ _ o st k => okO o.dst st (un op (opd x st)) k
def doExtract (x : Operand) (i : Nat) : Do := fun _ _ _ _ o st k => onTuple (opd x st) (fun vs => okO o.dst st (F.nthR vs i) k) none
def part (l : Option (Nat × Bool)) (cs : List V) (off : Nat) : Option V :=
 onSome l (fun p => Bool.rec (motive := fun _ => Option V) (F.nthR cs off) (bif Nat.ble (Nat.add off p.1) (F.lenR cs) then some (.agg (F.takeR (F.dropR cs off) p.1)) else none) p.2) none
def doLoad (t : TypeId) (x : Operand) : Do := fun P C call gl o st k =>
 onPtr (opd x st) (fun r off => onRef r
   (fun s g => onCells (F.getR (0, .gone) (path s) st.loc).2 (fun _ cs => bif Nat.beq g (F.getR (0, .gone) (path s) st.loc).1 then okO o.dst st (part (F.layE P t) cs off) k else none) none)
   (fun r => onSome (F.nthR st.hp.rows r) (fun row => onCells row (fun _ cs => okO o.dst st (part (F.layE P t) cs off) k) none) none))
  (fun cs => okO o.dst st (part (F.layE P t) cs 0) k) none
def doIndexAddr (t : TypeId) (x i : Operand) : Do := fun P _ _ _ o st k =>
 onInt (opd i st) (fun _ n => onSome (F.elemT P t) (fun e => onSome (F.layE P e) (fun p => onSlice (opd x st)
  (fun sz l => bif Nat.beq p.1 sz then onNat n (fun m => bif Nat.blt m (F.lenR l) then onSome (F.nthR l m) (fun v => ok o.dst st (.iptr v.cells) k) none else none) none else none)
  (fun r off len sz ag => bif Nat.beq p.1 sz then onNat n (fun m => bif Nat.blt m len then ok o.dst st (.ptr r (Nat.add off (Nat.mul m p.1))) k else none) none else none) none) none) none) none
def doFieldAddr (t : TypeId) (x : Operand) (i : Nat) : Do := fun P _ _ _ o st k =>
 onSome (F.fieldOf P t i) (fun f => onSome (F.layE P f.type) (fun _ => onPtr (opd x st) (fun r off => ok o.dst st (.ptr r (Nat.add off f.offset)) k) (fun cs => ok o.dst st (.iptr (F.dropR cs f.offset)) k) none) none) none
def doField (t : TypeId) (x : Operand) (i : Nat) : Do := fun P _ _ _ o st k =>
 onSome (F.fieldOf P t i) (fun f => onAgg (opd x st) (fun cs => okO o.dst st (part (F.layE P f.type) cs f.offset) k) none) none
def isStr (t : Option TypeDesc) : Bool := match t with
 | some .string => true
 | _ => false
def doIndex (t : TypeId) (x i : Operand) : Do := fun P _ _ _ o st k =>
 bif isStr (P.underlying t) then onStr (opd x st) (fun s => onInt (opd i st) (fun _ n => onNat n (fun m => bif Nat.blt m s.n then ok o.dst st (.int .u8 (.ofNat (s.get m))) k else none) none) none) none else none
def intK (t : Option TypeDesc) : Option IntKind := match t with
 | some (.int k) => some k
 | _ => none
def doConvert (s t : TypeId) (x : Operand) : Do := fun P C call gl o st k =>
 onSome (intK (P.underlying s)) (fun _ => onSome (intK (P.underlying t)) (fun kd => onInt (opd x st) (fun _ n => ok o.dst st (.int kd (F.wrapI kd n)) k) none) (slow P C call gl o st k)) (slow P C call gl o st k)
def backO (o : Option Out) (d : Option Nat) (st : St) (k : K) : R :=
 onSome o (fun out => Out.rec (motive := fun _ => Option Nat → St → K → R) (fun v h d st k => ok d { st with hp := h } v k) (fun v h d st _ => some (.panic v, { st with hp := h })) out d st k) none
def isSl (t : Option TypeDesc) : Bool := match t with
 | some (.slice _) => true
 | _ => false
def doLen (t : Option TypeDesc) (x : V) (d : Option Nat) (st : St) (k : K) (els : R) : R :=
 onSlice x (fun _ l => bif isSl t then ok d st (.int .i64 (.ofNat (F.lenR l))) k else els) (fun _ _ n _ _ => bif isSl t then ok d st (.int .i64 (.ofNat n)) k else els)
  (onStr x (fun s => bif isStr t then ok d st (.int .i64 (.ofNat s.n)) k else els) els)
def callee (c : Call) : Nat × Nat := match c.callee, c.args.toList with
 | .value (.func f), _ => (1, f)
 | .builtin .len, [_] => (2, 0)
 | _, _ => (0, 0)
def doCall (c : Call) : Do := fun P C call gl o st k =>
 Nat.rec (motive := fun _ => R) (slow P C call gl o st k) (fun m _ => Nat.rec (motive := fun _ => R)
   (onSome (F.exps false st (F.mapR (fun x => opd x st) c.args.toList)) (fun p => backO (call (callee c).2 p.1 p.2.hp) o.dst p.2 k) none)
   (fun _ _ => onSome (F.nthR c.args.toList 0) (fun x => onSome (F.nthR c.argTypes.toList 0) (fun t => doLen (P.underlying t) (opd x st) o.dst st k (slow P C call gl o st k)) none) none) m) (callee c).1
def one (o : Oper) (P : Program) (C : Cfg) (call : CallF) (gl : Nat → Bool) (st : St) (k : K) : R :=
 Op.rec (motive := fun _ => Do)
  doMove doMove doPick (fun _ => slow) (fun _ _ => slow) (fun _ _ => slow) (fun _ _ _ => slow) (fun _ _ _ _ => slow) doLoad (fun _ _ _ => slow) (fun _ => slow) (fun _ => slow) (fun _ => slow)
  doBin doUn doConvert (fun _ _ => slow) (fun _ _ => slow) (fun _ _ _ => slow) (fun _ _ => slow) (fun _ _ => slow) (fun _ _ _ => slow) (fun _ _ _ _ _ => slow) doFieldAddr doField doIndexAddr doIndex
  (fun _ _ _ _ => slow) (fun _ _ _ _ => slow) (fun _ _ _ => slow) (fun _ _ _ _ => slow) (fun _ _ => slow) (fun _ _ => slow) (fun _ => slow) (fun _ _ _ _ => slow) doExtract doCall
  (fun _ => slow) (fun _ => slow) (fun _ => slow) (fun _ _ => slow) (fun _ _ _ => slow) (fun _ _ => slow) o.op P C call gl o st k
def ops (P : Program) (C : Cfg) (call : CallF) (gl : Nat → Bool) (all : Array Oper) (l : List Oper) (st : St) (k : K) : R :=
 List.rec (motive := fun _ => St → K → R) (fun st k => k st) (fun o _ ih st k =>
  Option.rec (motive := fun _ => R) (one o P C call gl st (fun st => ih st k))
   (fun _ => onSome (F.wantedV all o (F.rho st)) (fun b => Bool.rec (motive := fun _ => R) (ok o.dst st (.tuple []) (fun st => ih st k)) (one o P C call gl st (fun st => ih st k)) b) none) o.guard) l st k
def region (P : Program) (C : Cfg) (call : CallF) (f : FuncId) (id : Nat) (l : Array Oper) (draw : Bool) (st : St) (k : K) : R :=
 Bool.rec (motive := fun _ => R) (ops P C call (C.glob f) l l.toList st k) (next (F.regionV P C call f id l true st) k) draw
def done (st : St) : R := some (.normal, st)
def code (P : Program) (C : Cfg) (call : CallF) (f : FuncId) (fuel : Nat) (c : Code) (st : St) (k : K) : R :=
 Code.rec (motive := fun _ => St → K → R)
  (fun st k => k st)
  (fun id ops draw st k => region P C call f id ops draw st k)
  (fun _ _ iha ihb st k => iha st (fun st => ihb st k))
  (fun c _ _ iha ihb st k => onBool (opd c st) (fun b => Bool.rec (motive := fun _ => R) (ihb st k) (iha st k) b) none)
  (fun id _ ih st k => onSome (ih st done) (fun p => Ex.rec (motive := fun _ => Nat → K → St → R) (fun _ k st => k st) (fun i id k st => bif Nat.beq i id then k st else some (.exit i, st)) (fun _ _ st => some (.ret, st)) (fun v _ _ st => some (.panic v, st)) p.1 id k p.2) none)
  (fun _ ih st k => Nat.rec (motive := fun _ => St → R) (fun _ => none) (fun _ il st => ih st il) fuel st)
  (fun _ _ _ _ _ _ _ _ => none)
  (fun i st _ => some (.exit i, st))
  (fun _ _ _ _ => none)
  (fun _ _ _ => none)
  (fun _ _ _ => none)
  (fun st _ => some (.ret, st))
  (fun _ _ _ => none)
  c st k
def body (P : Program) (C : Cfg) (call : CallF) (fuel : Nat) (f : FuncId) (args : List V) (h : Hp) : Option Out :=
 match C.use f, P.funcs[f]? with
 | false, _ => none
 | _, none => none
 | true, some fn => match fn.body with
  | none => none
  | some c => match code P C call f fuel c { tm := F.startTm args, loc := .lf, hp := { h with dirty := none } } done with
   | some (.normal, st) | some (.ret, st) => (match F.resV P st fn.results.toList with
    | none => none
    | some l => match F.exps false st l with
     | none => none
     | some (l, st') => match l with
      | [v] => some (.val v (F.backHp h st'.hp [v]))
      | vs => some (.val (.tuple vs) (F.backHp h st'.hp vs)))
   | some (.panic v, st) => some (.panic v (F.backHp h st.hp [v]))
   | _ => none
end
end Go.AM.G
end

section
namespace Go.AM.G
open Go Go.AM
theorem next_none (k : K) : next none k = none := rfl
theorem next_normal (st : St) (k : K) : next (some (.normal, st)) k = k st := rfl
theorem next_exit (i : Nat) (st : St) (k : K) : next (some (.exit i, st)) k = some (.exit i, st) := rfl
theorem next_ret (st : St) (k : K) : next (some (.ret, st)) k = some (.ret, st) := rfl
theorem next_panic (v : V) (st : St) (k : K) : next (some (.panic v, st)) k = some (.panic v, st) := rfl
theorem next_done (r : R) : next r done = r := by
 cases r with
 | none => rfl
 | some p => obtain ⟨e, st⟩ := p; cases e <;> rfl
theorem next_next (r : R) (f k : K) : next (next r f) k = next r (fun st => next (f st) k) := by
 cases r with
 | none => rfl
 | some p => obtain ⟨e, st⟩ := p; cases e <;> rfl
section
variable {P : Program} {C : Cfg} {call : CallF} {gl : Nat → Bool}
theorem opsV_next (all : Array Oper) (o : Oper) (l : List Oper) (st : St) : opsV P C call gl all (o :: l) st = match wantedV all o st.ρ with
  | none => none
  | some false => opsV P C call gl all l (putV st o.dst (.tuple []))
  | some true => next (oneV P C call gl st o) (opsV P C call gl all l) := by
 rw [opsV]
 cases wantedV all o st.ρ with
 | none => rfl
 | some b =>
  cases b with
  | false => rfl
  | true =>
   simp only []
   cases oneV P C call gl st o with
   | none => rfl
   | some p => obtain ⟨e, st'⟩ := p; cases e <;> rfl
theorem codeV_next (f fuel : Nat) (a b : Code) (st : St) : codeV P C call f fuel (.seq a b) st = next (codeV P C call f fuel a st) (codeV P C call f fuel b) := by
 rw [codeV]
 cases codeV P C call f fuel a st with
 | none => rfl
 | some p => obtain ⟨e, st'⟩ := p; cases e <;> rfl
end
theorem loopV_next (body : St → Option (Ex × St)) (n : Nat) (st : St) : loopV body (n + 1) st = next (body st) (loopV body n) := by
 rw [loopV]
 cases body st with
 | none => rfl
 | some p => obtain ⟨e, st'⟩ := p; cases e <;> rfl
theorem opd_eq (x : Operand) (st : St) : opd x st = AM.opd st.ρ x := by
 cases x with
 | tmp t => show F.getR V.dead (path t) st.tm = _; rw [F.getR_eq]; rfl
 | _ => rfl
theorem ok_eq (d : Option Nat) (st : St) (v : V) (k : K) : ok d st v k = k (putV st d v) := by
 cases d with
 | none => rfl
 | some i =>
  cases st with
  | mk tm loc hp => show k ⟨F.putR v (path i) tm, loc, hp⟩ = _; rw [F.putR_eq]; rfl
theorem okO_eq (d : Option Nat) (st : St) (v : Option V) (k : K) : okO d st v k = next (v.map fun v => (Ex.normal, putV st d v)) k := by
 cases v with
 | none => rfl
 | some v => exact ok_eq d st v k
theorem ikNum_eq (a b : IntKind) : Nat.beq (ikNum a) (ikNum b) = decide (a = b) := by cases a <;> cases b <;> rfl
section
variable {α : Type}
theorem onSome_eq {β : Type} (o : Option β) (f : β → α) (d : α) : onSome o f d = match o with | some b => f b | none => d := by cases o <;> rfl
end
theorem int2_eq (op : BinOp) (k : IntKind) (a b : Int) : int2 op k a b = binV op (.int k a) (.int k b) := by
 have h1 : (!decide (b < a)) = decide (a ≤ b) := by rw [← decide_not]; exact decide_eq_decide.2 Int.not_lt
 have h2 : (!decide (a < b)) = decide (a ≥ b) := by rw [← decide_not]; exact decide_eq_decide.2 Int.not_lt
 cases op with
 | add => simp only [binV, if_true, binInt, ← F.wrapI_eq]; rfl
 | sub => simp only [binV, if_true, binInt, ← F.wrapI_eq]; rfl
 | mul => simp only [binV, if_true, binInt, ← F.wrapI_eq]; rfl
 | eql => simp only [binV, if_true, binInt, intCmp, ← F.eqI_eq]; rfl
 | neq => simp only [binV, if_true, binInt, intCmp, bne, ← F.eqI_eq]; rfl
 | lss => simp only [binV, if_true, binInt, intCmp, ← F.ltI_eq]; rfl
 | leq => simp only [binV, if_true, binInt, intCmp, ← h1, ← F.ltI_eq]; rfl
 | gtr => simp only [binV, if_true, binInt, intCmp, GT.gt, ← F.ltI_eq]; rfl
 | geq => simp only [binV, if_true, binInt, intCmp, ← h2, ← F.ltI_eq]; rfl
 | _ => simp only [binV, if_true]; rfl
theorem eqV_int (op : BinOp) (d : Option TypeDesc) (cn : Bool) (k : IntKind) (n : Int) (y : V) : eqV op d cn (.int k n) y = none := by
 unfold eqV
 split <;> first | rfl | simp_all
theorem eqV_str (op : BinOp) (d : Option TypeDesc) (cn : Bool) (s : Str) (y : V) : eqV op d cn (.str s) y = none := by
 unfold eqV
 split <;> first | rfl | simp_all
theorem eqA_int (P : Program) (op : BinOp) (t : TypeId) (k : IntKind) (n : Int) (y : V) : eqA P op t (.int k n) y = none := by
 unfold eqA
 split <;> first | rfl | simp_all
theorem eqA_str (P : Program) (op : BinOp) (t : TypeId) (s : Str) (y : V) : eqA P op t (.str s) y = none := by
 unfold eqA
 split <;> first | rfl | simp_all
theorem orA_none (b : Unit → Option V) : orA none b = b () := rfl
def bin0 (P : Program) (op : BinOp) (t : TypeId) (X Y : Operand) (x y : V) : Option V := match binV op x y with
 | some v => some v
 | none => orA (eqV op (P.underlying t) (isConst X || isConst Y) x y) fun _ => eqA P op t x y
theorem bin_eq (P : Program) (op : BinOp) (t : TypeId) (X Y : Operand) (x y : V) : bin P op t X Y x y = bin0 P op t X Y x y := by
 have id' : ∀ (o : Option V), (match o with | some v => some v | none => none) = o := fun o => by cases o <;> rfl
 unfold bin0
 cases x with
 | int k a =>
  simp only [eqV_int, eqA_int, orA_none, id']
  cases y with
  | int k' b =>
   show (bif Nat.beq (ikNum k) (ikNum k') then int2 op k a b else F.binV op (.int k a) (.int k' b)) = _
   rw [ikNum_eq, F.e_binV]
   by_cases h : k = k'
   ·subst h; simp [int2_eq]
   ·simp [h]
  | _ => cases op <;> rfl
 | str a =>
  simp only [eqV_str, eqA_str, orA_none, id']
  cases y with
  | str b => rfl
  | _ => cases op <;> rfl
 | _ => unfold bin; rw [F.e_eqV]; cases y <;> rfl
section
variable {P : Program} {C : Cfg} {call : CallF} {gl : Nat → Bool} {o : Oper} {st : St} {k : K}
theorem oneV_pure {v : Option V} (hl : locV P C gl st.ρ st.lc o = v.map (·, none)) (hg : v = none → stepG P C gl st o = none) :
  oneV P C call gl st o = v.map fun v => (Ex.normal, putV st o.dst v) := by
 cases v with
 | none => simp only [oneV, stepV, hl, Option.map_none, hg rfl]
 | some v => simp only [oneV, stepV, hl, Option.map_some]; rfl
theorem one_slow : slow P C call gl o st k = next (oneV P C call gl st o) k := by unfold slow; rw [F.e_oneV]
theorem one_move {x : Operand} (h : o.op = .move x) : doMove x P C call gl o st k = next (oneV P C call gl st o) k := by
 rw [oneV_pure (v := some (AM.opd st.ρ x)) (by simp only [locV, h, pureV]) (by simp)]
 show ok o.dst st (opd x st) k = _
 rw [ok_eq, opd_eq]; rfl
theorem one_assign {x : Operand} (h : o.op = .assign x) : doMove x P C call gl o st k = next (oneV P C call gl st o) k := by
 rw [oneV_pure (v := some (AM.opd st.ρ x)) (by simp only [locV, h, pureV]) (by simp)]
 show ok o.dst st (opd x st) k = _
 rw [ok_eq, opd_eq]; rfl
theorem one_pick {c a b : Operand} (h : o.op = .pick c a b) : doPick c a b P C call gl o st k = next (oneV P C call gl st o) k := by
 rw [oneV_pure (v := match AM.opd st.ρ c with | .bool true => some (AM.opd st.ρ a) | .bool false => some (AM.opd st.ρ b) | _ => none) (by simp only [locV, h, pureV]; rfl) (by intro _; simp only [stepG, h])]
 show onBool (opd c st) (fun q => Bool.rec (motive := fun _ => R) (ok o.dst st (opd b st) k) (ok o.dst st (opd a st) k) q) none = _
 rw [ok_eq, ok_eq, opd_eq, opd_eq, opd_eq]
 cases AM.opd st.ρ c with
 | bool q => cases q <;> rfl
 | _ => rfl
theorem one_bin {op : BinOp} {t u : TypeId} {x y : Operand} (h : o.op = .binOp op t x y u) : doBin op t x y u P C call gl o st k = next (oneV P C call gl st o) k := by
 rw [oneV_pure (v := bin0 P op t x y (AM.opd st.ρ x) (AM.opd st.ρ y)) (by simp only [locV, h, pureV]; rfl) (by intro _; simp only [stepG, h])]
 show okO o.dst st (bin P op t x y (opd x st) (opd y st)) k = _
 rw [okO_eq, bin_eq, opd_eq, opd_eq]
theorem one_un {op : UnOp} {t : TypeId} {x : Operand} (h : o.op = .unOp op t x) : doUn op t x P C call gl o st k = next (oneV P C call gl st o) k := by
 rw [oneV_pure (v := unV op (AM.opd st.ρ x)) (by simp only [locV, h, pureV]) (by intro _; simp only [stepG, h])]
 show okO o.dst st (un op (opd x st)) k = _
 rw [okO_eq, opd_eq]
 have : ∀ v, un op v = unV op v := by
  intro v
  rw [← F.e_unV]
  cases op with
  | not => cases v <;> rfl
  | _ => rfl
 rw [this]
theorem one_extract {x : Operand} {i : Nat} (h : o.op = .extract x i) : doExtract x i P C call gl o st k = next (oneV P C call gl st o) k := by
 rw [oneV_pure (v := match AM.opd st.ρ x with | .tuple vs => vs[i]? | _ => none) (by simp only [locV, h, pureV]; rfl) (by intro _; simp only [stepG, h])]
 show onTuple (opd x st) (fun vs => okO o.dst st (F.nthR vs i) k) none = _
 rw [opd_eq]
 cases AM.opd st.ρ x with
 | tuple vs => show okO o.dst st (F.nthR vs i) k = _; rw [okO_eq, F.nthR_eq]
 | _ => rfl
theorem part_eq (t : TypeId) (cs : List V) (off : Nat) : part (F.layE P t) cs off = partV P t cs off := by
 rw [F.e_layE]
 unfold part partV
 cases layE P t with
 | none => rfl
 | some p =>
  obtain ⟨n, g⟩ := p
  cases g with
  | false => exact F.nthR_eq _ _
  | true =>
   show (bif Nat.ble (Nat.add off n) (F.lenR cs) then some (V.agg (F.takeR (F.dropR cs off) n)) else none) = _
   rw [F.lenR_eq, F.takeR_eq, F.dropR_eq]; rfl
theorem one_load {t : TypeId} {x : Operand} (h : o.op = .load t x) : doLoad t x P C call gl o st k = next (oneV P C call gl st o) k := by
 show onPtr (opd x st) (fun r off => onRef r
   (fun s g => onCells (F.getR (0, .gone) (path s) st.loc).2 (fun _ cs => bif Nat.beq g (F.getR (0, .gone) (path s) st.loc).1 then okO o.dst st (part (F.layE P t) cs off) k else none) none)
   (fun r => onSome (F.nthR st.hp.rows r) (fun row => onCells row (fun _ cs => okO o.dst st (part (F.layE P t) cs off) k) none) none))
  (fun cs => okO o.dst st (part (F.layE P t) cs 0) k) none = _
 rw [opd_eq]
 cases hx : AM.opd st.ρ x with
 | ptr r off =>
  cases r with
  | loc s g =>
   have hlc : F.getR (0, .gone) (path s) st.loc = st.lc s := by rw [F.getR_eq]; rfl
   show onCells (F.getR (0, .gone) (path s) st.loc).2 (fun _ cs => bif Nat.beq g (F.getR (0, .gone) (path s) st.loc).1 then okO o.dst st (part (F.layE P t) cs off) k else none) none = _
   rw [hlc]
   have hg : stepG P C gl st o = none := by simp only [stepG, h, hx]
   cases hr : st.lc s with
   | mk g' row =>
    cases row with
    | cells b cs =>
     rw [oneV_pure (v := bif Nat.beq g g' then partV P t cs off else none) (by simp only [locV, h, hx, hr]; cases Nat.beq g g' <;> rfl) (fun _ => hg)]
     show (bif Nat.beq g g' then okO o.dst st (part (F.layE P t) cs off) k else none) = _
     cases Nat.beq g g' with
     | false => rfl
     | true => simp only [cond_true]; rw [okO_eq, part_eq]
    | _ => rw [oneV_pure (v := none) (by simp only [locV, h, hx, hr]; rfl) (fun _ => hg)]; rfl
  | glob r =>
   have hl : locV P C gl st.ρ st.lc o = none := by simp only [locV, h, hx]
   show onSome (F.nthR st.hp.rows r) (fun row => onCells row (fun _ cs => okO o.dst st (part (F.layE P t) cs off) k) none) none = _
   rw [F.nthR_eq]
   cases hr : st.hp.rows[r]? with
   | none => simp only [oneV, stepV, hl, stepG, h, hx, hr]; rfl
   | some row =>
    cases row with
    | cells b cs =>
     show okO o.dst st (part (F.layE P t) cs off) k = _
     rw [okO_eq, part_eq]
     simp only [oneV, stepV, hl, stepG, h, hx, hr]
     cases partV P t cs off <;> rfl
    | _ => simp only [oneV, stepV, hl, stepG, h, hx, hr]; rfl
 | iptr cs =>
  rw [oneV_pure (v := partV P t cs 0) (by simp only [locV, h, hx]) (by intro _; simp only [stepG, h, hx])]
  show okO o.dst st (part (F.layE P t) cs 0) k = _
  rw [okO_eq, part_eq]
 | _ => rw [oneV_pure (v := none) (by simp only [locV, h, hx]; rfl) (by intro _; simp only [stepG, h, hx])]; rfl
theorem one_fieldAddr {t : TypeId} {x : Operand} {i : Nat} (h : o.op = .fieldAddr t x i) : doFieldAddr t x i P C call gl o st k = next (oneV P C call gl st o) k := by
 have hg : stepG P C gl st o = none := by simp only [stepG, h]
 show onSome (F.fieldOf P t i) (fun f => onSome (F.layE P f.type) (fun _ => onPtr (opd x st) (fun r off => ok o.dst st (.ptr r (Nat.add off f.offset)) k) (fun cs => ok o.dst st (.iptr (F.dropR cs f.offset)) k) none) none) none = _
 rw [F.e_fieldOf, F.e_layE, opd_eq]
 cases hf : fieldOf P t i with
 | none => rw [oneV_pure (v := none) (by simp only [locV, h, pureV, hf]) (fun _ => hg)]; rfl
 | some f =>
  show onSome (layE P f.type) (fun _ => onPtr (AM.opd st.ρ x) (fun r off => ok o.dst st (.ptr r (Nat.add off f.offset)) k) (fun cs => ok o.dst st (.iptr (F.dropR cs f.offset)) k) none) none = _
  cases hl : layE P f.type with
  | none => rw [oneV_pure (v := none) (by simp only [locV, h, pureV, hf, hl]) (fun _ => hg)]; rfl
  | some p =>
   show onPtr (AM.opd st.ρ x) (fun r off => ok o.dst st (.ptr r (Nat.add off f.offset)) k) (fun cs => ok o.dst st (.iptr (F.dropR cs f.offset)) k) none = _
   cases hx : AM.opd st.ρ x with
   | ptr r off =>
    rw [oneV_pure (v := some (.ptr r (off + f.offset))) (by simp only [locV, h, pureV, hf, hl, hx]) (fun _ => hg)]
    exact ok_eq _ _ _ _
   | iptr cs =>
    rw [oneV_pure (v := some (.iptr (cs.drop f.offset))) (by simp only [locV, h, pureV, hf, hl, hx]) (fun _ => hg)]
    show ok o.dst st (.iptr (F.dropR cs f.offset)) k = _
    rw [ok_eq, F.dropR_eq]; rfl
   | _ => rw [oneV_pure (v := none) (by simp only [locV, h, pureV, hf, hl, hx]) (fun _ => hg)]; rfl
theorem one_field {t : TypeId} {x : Operand} {i : Nat} (h : o.op = .field t x i) : doField t x i P C call gl o st k = next (oneV P C call gl st o) k := by
 have hg : stepG P C gl st o = none := by simp only [stepG, h]
 show onSome (F.fieldOf P t i) (fun f => onAgg (opd x st) (fun cs => okO o.dst st (part (F.layE P f.type) cs f.offset) k) none) none = _
 rw [F.e_fieldOf, opd_eq]
 cases hf : fieldOf P t i with
 | none => rw [oneV_pure (v := none) (by simp only [locV, h, pureV, hf]) (fun _ => hg)]; rfl
 | some f =>
  show onAgg (AM.opd st.ρ x) (fun cs => okO o.dst st (part (F.layE P f.type) cs f.offset) k) none = _
  cases hx : AM.opd st.ρ x with
  | agg cs =>
   rw [oneV_pure (v := partV P f.type cs f.offset) (by simp only [locV, h, pureV, hf, hx]) (fun _ => hg)]
   show okO o.dst st (part (F.layE P f.type) cs f.offset) k = _
   rw [okO_eq, part_eq]
  | _ => rw [oneV_pure (v := none) (by simp only [locV, h, pureV, hf, hx]) (fun _ => hg)]; rfl
theorem onNat_lt (n : Int) (m : Nat) (f : Nat → R) : onNat n (fun j => bif Nat.blt j m then f j else none) none = match toNatLt n m with | some j => f j | none => none := by
 cases n with
 | ofNat j => show (bif Nat.blt j m then f j else none) = _; simp only [toNatLt]; cases Nat.blt j m <;> rfl
 | negSucc j => rfl
theorem one_indexAddr {t : TypeId} {x i : Operand} (h : o.op = .indexAddr t x i) : doIndexAddr t x i P C call gl o st k = next (oneV P C call gl st o) k := by
 have hg : stepG P C gl st o = none := by simp only [stepG, h]
 show onInt (opd i st) (fun _ n => onSome (F.elemT P t) (fun e => onSome (F.layE P e) (fun p => onSlice (opd x st)
  (fun sz l => bif Nat.beq p.1 sz then onNat n (fun m => bif Nat.blt m (F.lenR l) then onSome (F.nthR l m) (fun v => ok o.dst st (.iptr v.cells) k) none else none) none else none)
  (fun r off len sz ag => bif Nat.beq p.1 sz then onNat n (fun m => bif Nat.blt m len then ok o.dst st (.ptr r (Nat.add off (Nat.mul m p.1))) k else none) none else none) none) none) none) none = _
 rw [F.e_elemT, F.e_layE, opd_eq, opd_eq]
 cases hi : AM.opd st.ρ i with
 | int ki n =>
  rw [oneV_pure (v := indexAddrV P t (AM.opd st.ρ x) n) (by simp only [locV, h, pureV, hi]) (fun _ => hg)]
  show onSome (elemT P t) _ none = _
  cases he : elemT P t with
  | none => simp only [indexAddrV, he]; rfl
  | some e =>
   show onSome (layE P e) _ none = _
   cases hl : layE P e with
   | none => simp only [indexAddrV, he, hl]; rfl
   | some p =>
    obtain ⟨sz0, g⟩ := p
    cases hx : AM.opd st.ρ x with
    | slice tok full sz l =>
     show (bif Nat.beq sz0 sz then onNat n (fun m => bif Nat.blt m (F.lenR l) then onSome (F.nthR l m) (fun v => ok o.dst st (.iptr v.cells) k) none else none) none else none) = _
     simp only [indexAddrV, he, hl]
     cases Nat.beq sz0 sz with
     | false => rfl
     | true =>
      simp only [cond_true]
      rw [onNat_lt, F.lenR_eq]
      cases toNatLt n l.length with
      | none => rfl
      | some j =>
       simp only []
       rw [F.nthR_eq]
       cases l[j]? with
       | none => rfl
       | some v => exact ok_eq _ _ _ _
    | arr r off len lim sz ag =>
     show (bif Nat.beq sz0 sz then onNat n (fun m => bif Nat.blt m len then ok o.dst st (.ptr r (Nat.add off (Nat.mul m sz0))) k else none) none else none) = _
     simp only [indexAddrV, he, hl]
     cases hb : Nat.beq sz0 sz with
     | false => rfl
     | true =>
      have : sz0 = sz := Nat.eq_of_beq_eq_true hb
      subst this
      simp only [cond_true]
      rw [onNat_lt]
      cases toNatLt n len with
      | none => rfl
      | some j => exact ok_eq _ _ _ _
    | _ => simp only [indexAddrV, he, hl]; rfl
 | _ => rw [oneV_pure (v := none) (by simp only [locV, h, pureV, hi]) (fun _ => hg)]; rfl
theorem isStr_eq (d : Option TypeDesc) : isStr d = true ↔ d = some .string := by
 unfold isStr
 split
 ·simp
 ·rename_i hn; constructor
  ·intro h; simp at h
  ·intro h; exact absurd h hn
theorem one_index {t : TypeId} {x i : Operand} (h : o.op = .index t x i) : doIndex t x i P C call gl o st k = next (oneV P C call gl st o) k := by
 have hg : stepG P C gl st o = none := by simp only [stepG, h]
 show (bif isStr (P.underlying t) then onStr (opd x st) (fun s => onInt (opd i st) (fun _ n => onNat n (fun m => bif Nat.blt m s.n then ok o.dst st (.int .u8 (.ofNat (s.get m))) k else none) none) none) none else none) = _
 rw [opd_eq, opd_eq]
 cases hb : isStr (P.underlying t) with
 | false =>
  have hn : P.underlying t ≠ some .string := fun e => by rw [(isStr_eq _).2 e] at hb; simp at hb
  rw [oneV_pure (v := none) (by
   simp only [locV, h, pureV]
   split
   ·rename_i hu; exact absurd hu hn
   ·rfl) (fun _ => hg)]
  rfl
 | true =>
  have hu := (isStr_eq _).1 hb
  simp only [cond_true]
  cases hx : AM.opd st.ρ x with
  | str s =>
   show onInt (AM.opd st.ρ i) (fun _ n => onNat n (fun m => bif Nat.blt m s.n then ok o.dst st (.int .u8 (.ofNat (s.get m))) k else none) none) none = _
   cases hi : AM.opd st.ρ i with
   | int ki n =>
    show onNat n (fun m => bif Nat.blt m s.n then ok o.dst st (.int .u8 (.ofNat (s.get m))) k else none) none = _
    rw [onNat_lt, oneV_pure (v := match toNatLt n s.n with | none => none | some j => some (.int .u8 (.ofNat (s.get j)))) (by simp only [locV, h, pureV, hx, hi, hu]; rfl) (fun _ => hg)]
    cases toNatLt n s.n with
    | none => rfl
    | some j => exact ok_eq _ _ _ _
   | _ => rw [oneV_pure (v := none) (by simp only [locV, h, pureV, hx, hi]) (fun _ => hg)]; rfl
  | _ => rw [oneV_pure (v := none) (by simp only [locV, h, pureV, hx]) (fun _ => hg)]; rfl
theorem intK_eq (d : Option TypeDesc) : (∃ kd, d = some (.int kd) ∧ intK d = some kd) ∨ intK d = none := by
 unfold intK
 split
 ·rename_i kd; exact .inl ⟨kd, rfl, rfl⟩
 ·exact .inr rfl
theorem one_convert {s t : TypeId} {x : Operand} (h : o.op = .convert s t x) : doConvert s t x P C call gl o st k = next (oneV P C call gl st o) k := by
 show onSome (intK (P.underlying s)) (fun _ => onSome (intK (P.underlying t)) (fun kd => onInt (opd x st) (fun _ n => ok o.dst st (.int kd (F.wrapI kd n)) k) none) (slow P C call gl o st k)) (slow P C call gl o st k) = _
 rw [one_slow, opd_eq]
 rcases intK_eq (P.underlying s) with ⟨ks, h1, h2⟩ | h2
 ·rcases intK_eq (P.underlying t) with ⟨kt, h3, h4⟩ | h4
  ·rw [h2, h4]
   show onInt (AM.opd st.ρ x) (fun _ n => ok o.dst st (.int kt (F.wrapI kt n)) k) none = _
   have hg : stepG P C gl st o = none := by
    simp only [stepG, h, convS, h1, h3]
    cases o.dst <;> rfl
   cases hx : AM.opd st.ρ x with
   | int kk n =>
    rw [oneV_pure (v := some (.int kt (kt.wrap n))) (by simp only [locV, h, pureV, convV, h1, h3, hx]) (fun e => by simp at e)]
    show ok o.dst st (.int kt (F.wrapI kt n)) k = _
    rw [ok_eq, F.wrapI_eq]; rfl
   | _ => rw [oneV_pure (v := none) (by simp only [locV, h, pureV, convV, h1, h3, hx]) (fun _ => hg)]; rfl
  ·rw [h2, h4]; rfl
 ·rw [h2]; rfl
theorem backO_eq (r : Option Out) (d : Option Nat) : backO r d st k = next (match r with
  | some (.val v h) => some (Ex.normal, putV { st with hp := h } d v)
  | some (.panic v h) => some (Ex.panic v, { st with hp := h })
  | none => none) k := by
 cases r with
 | none => rfl
 | some out =>
  cases out with
  | val v h => exact ok_eq _ _ _ _
  | panic v h => rfl
theorem isSl_eq (d : Option TypeDesc) : (∃ e, d = some (.slice e)) ∨ (isSl d = false ∧ ∀ e, d ≠ some (.slice e)) := by
 cases d with
 | none => exact .inr ⟨rfl, fun e h => by simp at h⟩
 | some d => cases d with
  | slice e => exact .inl ⟨e, rfl⟩
  | _ => exact .inr ⟨rfl, fun e h => by simp at h⟩
def lenV (d : Option TypeDesc) (v : V) : Option V := match v, d with
 | .nils, some (.slice _) => some (.int .i64 0)
 | .slice _ _ _ l, some (.slice _) => some (.int .i64 l.length)
 | .arr _ _ n _ _ _, some (.slice _) => some (.int .i64 n)
 | .str s, some .string => some (.int .i64 s.n)
 | _, _ => none
theorem doLen_eq (d : Option TypeDesc) (v : V) (dd : Option Nat) (els : R) (he : ∀ u, lenV d v = some u → els = next (some (Ex.normal, putV st dd u)) k) :
  doLen d v dd st k els = match lenV d v with | some u => next (some (Ex.normal, putV st dd u)) k | none => els := by
 have sl : ∀ n : Nat, (bif isSl d then ok dd st (.int .i64 (.ofNat n)) k else els) = match (match d with | some (.slice _) => some (V.int .i64 n) | _ => none) with | some u => next (some (Ex.normal, putV st dd u)) k | none => els := by
  intro n
  rcases isSl_eq d with ⟨e, rfl⟩ | ⟨h1, h2⟩
  ·show ok dd st _ k = _; rw [ok_eq]; rfl
  ·rw [h1]
   cases d with
   | none => rfl
   | some d => cases d with
    | slice e => exact absurd rfl (h2 e)
    | _ => rfl
 cases v with
 | slice tok full sz l => show (bif isSl d then ok dd st (.int .i64 (.ofNat (F.lenR l))) k else els) = _; rw [F.lenR_eq, sl]; cases d with
  | none => rfl
  | some d => cases d <;> rfl
 | arr r off n lim sz ag => show (bif isSl d then ok dd st (.int .i64 (.ofNat n)) k else els) = _; rw [sl]; cases d with
  | none => rfl
  | some d => cases d <;> rfl
 | str s =>
  show (bif isStr d then ok dd st (.int .i64 (.ofNat s.n)) k else els) = _
  cases hb : isStr d with
  | true => obtain rfl := (isStr_eq d).1 hb; show ok dd st _ k = _; rw [ok_eq]; rfl
  | false =>
   have : d ≠ some .string := fun e => by rw [(isStr_eq d).2 e] at hb; simp at hb
   cases d with
   | none => rfl
   | some d => cases d with
    | string => exact absurd rfl this
    | _ => rfl
 | nils =>
  show els = _
  cases hd : lenV d .nils with
  | none => rfl
  | some u => exact he u hd
 | _ => rfl
theorem one_call {c : Call} (h : o.op = .call c) : doCall c P C call gl o st k = next (oneV P C call gl st o) k := by
  have hs := one_slow (P := P) (C := C) (call := call) (gl := gl) (o := o) (st := st) (k := k)
  show Nat.rec (motive := fun _ => R) (slow P C call gl o st k) (fun m _ => Nat.rec (motive := fun _ => R)
      (onSome (F.exps false st (F.mapR (fun x => opd x st) c.args.toList)) (fun p => backO (call (callee c).2 p.1 p.2.hp) o.dst p.2 k) none)
      (fun _ _ => onSome (F.nthR c.args.toList 0) (fun x => onSome (F.nthR c.argTypes.toList 0) (fun t => doLen (P.underlying t) (opd x st) o.dst st k (slow P C call gl o st k)) none) none) m) (callee c).1 = _
  cases hc : c.callee with
  | value f =>
    cases f with
    | func f =>
      have e1 : callee c = (1, f) := by unfold callee; rw [hc]
      rw [e1]
      show onSome (F.exps false st (F.mapR (fun x => opd x st) c.args.toList)) (fun p => backO (call f p.1 p.2.hp) o.dst p.2 k) none = _
      have e2 : F.mapR (fun x => opd x st) c.args.toList = opds st.ρ c.args.toList := by
        rw [F.mapR_eq]; exact List.map_congr_left (fun x _ => opd_eq x st)
      have hl : locV P C gl st.ρ st.lc o = none := by simp only [locV, h, pureV, hc]; rfl
      rw [e2, F.e_exps]
      simp only [oneV, stepV, hl, stepG, h, callS, hc, AM.opd, List.nil_append, List.append_nil]
      cases exps false st (opds st.ρ c.args.toList) with
      | none => rfl
      | some p => obtain ⟨l, st'⟩ := p; exact backO_eq _ _
    | _ => have e1 : callee c = (0, 0) := by { unfold callee; rw [hc] }
           rw [e1]; exact hs
  | builtin b =>
    cases b with
    | len =>
      cases ha : c.args.toList with
      | nil => have e1 : callee c = (0, 0) := by { unfold callee; rw [hc, ha] }
               rw [e1]; exact hs
      | cons x l =>
        cases l with
        | cons y l => have e1 : callee c = (0, 0) := by { unfold callee; rw [hc, ha] }
                      rw [e1]; exact hs
        | nil =>
          have e1 : callee c = (2, 0) := by { unfold callee; rw [hc, ha] }
          rw [e1]
          show onSome (F.nthR [x] 0) (fun x => onSome (F.nthR c.argTypes.toList 0) (fun t => doLen (P.underlying t) (opd x st) o.dst st k (slow P C call gl o st k)) none) none = _
          show onSome (F.nthR c.argTypes.toList 0) (fun t => doLen (P.underlying t) (opd x st) o.dst st k (slow P C call gl o st k)) none = _
          rw [F.nthR_eq, opd_eq]
          have ht : c.argTypes.toList[0]? = c.argTypes[0]? := by simp
          rw [ht]
          cases hat : c.argTypes[0]? with
          | none =>
            have hp : pureV P C st.ρ o.op = none := by simp only [h, pureV, hc, ha, hat]
            have hl : locV P C gl st.ρ st.lc o = none := by simp only [locV, h]; rw [h] at hp; rw [hp]; rfl
            have hg : stepG P C gl st o = none := by simp only [stepG, h, callS, hc, hat]
            simp only [oneV, stepV, hl, hg]; rfl
          | some t =>
            show doLen (P.underlying t) (AM.opd st.ρ x) o.dst st k (slow P C call gl o st k) = _
            have hp : pureV P C st.ρ (.call c) = lenV (P.underlying t) (AM.opd st.ρ x) := by
              simp only [pureV, hc, ha, hat]
              unfold lenV
              cases AM.opd st.ρ x <;> (cases P.underlying t with | none => rfl | some d => cases d <;> rfl)
            have key : ∀ u, lenV (P.underlying t) (AM.opd st.ρ x) = some u → oneV P C call gl st o = some (Ex.normal, putV st o.dst u) := by
              intro u hu
              rw [oneV_pure (v := some u) (by simp only [locV, h, hp, hu]) (fun e => by simp at e)]; rfl
            rw [doLen_eq _ _ _ _ (fun u hu => by rw [hs, key u hu])]
            cases hu : lenV (P.underlying t) (AM.opd st.ρ x) with
            | some u => simp only []; rw [key u hu]
            | none => exact hs
    | _ => have e1 : callee c = (0, 0) := by { unfold callee; rw [hc] }
           rw [e1]; exact hs
  | invoke x m => have e1 : callee c = (0, 0) := by { unfold callee; rw [hc] }
                  rw [e1]; exact hs
theorem one_eq : one o P C call gl st k = next (oneV P C call gl st o) k := by
 unfold one
 cases h : o.op with
 | move x => exact one_move h
 | assign x => exact one_assign h
 | pick c a b => exact one_pick h
 | load t x => exact one_load h
 | binOp op t x y u => exact one_bin h
 | unOp op t x => exact one_un h
 | convert s t x => exact one_convert h
 | fieldAddr t x i => exact one_fieldAddr h
 | field t x i => exact one_field h
 | indexAddr t x i => exact one_indexAddr h
 | index t x i => exact one_index h
 | extract x i => exact one_extract h
 | call c => exact one_call h
 | _ => exact one_slow
theorem ops_eq (all : Array Oper) : ∀ (l : List Oper) (st : St) (k : K), ops P C call gl all l st k = next (opsV P C call gl all l st) k
 | [], st, k => rfl
 | o :: l, st, k => by
  show Option.rec (motive := fun _ => R) (one o P C call gl st (fun st => ops P C call gl all l st k))
   (fun _ => onSome (F.wantedV all o (F.rho st)) (fun b => Bool.rec (motive := fun _ => R) (ok o.dst st (.tuple []) (fun st => ops P C call gl all l st k)) (one o P C call gl st (fun st => ops P C call gl all l st k)) b) none) o.guard = _
  have hk : (fun st => ops P C call gl all l st k) = fun st => next (opsV P C call gl all l st) k := funext fun st => ops_eq all l st k
  have hone : one o P C call gl st (fun st => ops P C call gl all l st k) = next (next (oneV P C call gl st o) (opsV P C call gl all l)) k := by
   rw [one_eq, next_next, hk]
  rw [hone, opsV_next, F.e_wantedV, F.e_rho, ok_eq, ops_eq all l]
  cases hg : o.guard with
  | none => simp only [wantedV, hg]
  | some q =>
   show onSome (wantedV all o st.ρ) _ none = _
   cases wantedV all o st.ρ with
   | none => rfl
   | some b => cases b <;> rfl
theorem region_eq (f : FuncId) (id : Nat) (l : Array Oper) (draw : Bool) : region P C call f id l draw st k = next (regionV P C call f id l draw st) k := by
 cases draw with
 | false => exact ops_eq _ _ _ _
 | true => show next (F.regionV P C call f id l true st) k = _; rw [F.e_regionV]
theorem code_eq (f : FuncId) (fuel : Nat) : ∀ (c : Code) (st : St) (k : K), code P C call f fuel c st k = next (codeV P C call f fuel c st) k := by
 intro c
 induction c with
 | region id ops draw => intro st k; rw [codeV]; exact region_eq f id ops draw
 | seq a b iha ihb =>
  intro st k
  show code P C call f fuel a st (fun st => code P C call f fuel b st k) = _
  rw [iha, codeV_next, next_next]
  exact congrArg _ (funext fun st => ihb st k)
 | cond c a b iha ihb =>
  intro st k
  show onBool (opd c st) (fun q => Bool.rec (motive := fun _ => R) (code P C call f fuel b st k) (code P C call f fuel a st k) q) none = _
  rw [iha, ihb, opd_eq, codeV]
  cases AM.opd st.ρ c with
  | bool q => cases q <;> rfl
  | _ => rfl
 | block id b ih =>
  intro st k
  show onSome (code P C call f fuel b st done) (fun p => Ex.rec (motive := fun _ => Nat → K → St → R) (fun _ k st => k st) (fun i id k st => bif Nat.beq i id then k st else some (.exit i, st)) (fun _ _ st => some (.ret, st)) (fun v _ _ st => some (.panic v, st)) p.1 id k p.2) none = _
  rw [ih, next_done, codeV]
  cases codeV P C call f fuel b st with
  | none => rfl
  | some p =>
   obtain ⟨e, st'⟩ := p
   cases e with
   | exit i => show (bif Nat.beq i id then k st' else some (.exit i, st')) = _; cases hb : Nat.beq i id <;> simp [hb] <;> rfl
   | _ => rfl
 | loop b ih =>
  intro st k
  rw [codeV]
  show Nat.rec (motive := fun _ => St → R) (fun _ => none) (fun _ il st => code P C call f fuel b st il) fuel st = _
  have : ∀ (n : Nat) (st : St), Nat.rec (motive := fun _ => St → R) (fun _ => none) (fun _ il st => code P C call f fuel b st il) n st = loopV (codeV P C call f fuel b) n st := by
   intro n
   induction n with
   | zero => intro st; rfl
   | succ n ihn =>
    intro st
    show code P C call f fuel b st (fun st => Nat.rec (motive := fun _ => St → R) (fun _ => none) (fun _ il st => code P C call f fuel b st il) n st) = _
    rw [ih, loopV_next]
    exact congrArg _ (funext ihn)
  rw [this]
  have out : ∀ (n : Nat) (st : St), next (loopV (codeV P C call f fuel b) n st) k = loopV (codeV P C call f fuel b) n st := by
   intro n
   induction n with
   | zero => intro st; rfl
   | succ n ihn =>
    intro st
    rw [loopV_next, next_next]
    exact congrArg _ (funext ihn)
  rw [out]
 | _ => intro st k; rfl
theorem body_eq (fuel : Nat) (f : FuncId) (args : List V) (h : Hp) : body P C call fuel f args h = bodyV P C call fuel f args h := by
 unfold body bodyV
 simp only [code_eq, next_done, F.e_startTm, F.e_resV, F.e_exps, F.e_backHp]
 rfl
end
end Go.AM.G
end

section
namespace Go.AM.S
open Go Go.AM
open _root_.Go.AM.G (R onInt onBool onStr onPtr onTuple onAgg onSlice onSome onRef onCells onNat isStr isSl intK int2 ikNum)
abbrev Tm := Tr V
abbrev Lo := Tr (Nat × Row)
abbrev K := Tm → Lo → Hp → R
noncomputable section
def jn {α β : Type} (c : α) (f : α → β) : β := f c
def bO (v : Option V) (f : V → R) : R := Option.rec (motive := fun _ => (V → R) → R) (fun _ => none) (fun v f => f v) v f
def gt (tm : Tm) (t : Nat) : V := F.getR .dead (path t) tm
def pt (tm : Tm) (t : Nat) (v : V) : Tm := F.putR v (path t) tm
def bin (P : Program) (op : BinOp) (t : TypeId) (cn : Bool) (x y : V) : Option V :=
 onInt x (fun k a => onInt y (fun k' b => bif Nat.beq (ikNum k) (ikNum k') then int2 op k a b else F.binV op (.int k a) (.int k' b)) none)
  (onStr x (fun a => onStr y (fun b => strOp op a b) none) (orA (F.eqV op (P.underlying t) cn x y) fun _ => eqA P op t x y))
def pick (c a b : V) : Option V := onBool c (fun q => Bool.rec (motive := fun _ => Option V) (some b) (some a) q) none
def nilC (x : V) : Option V := onPtr x (fun r o => some (.ptr r o)) (fun cs => some (.iptr cs)) none
def ext (x : V) (i : Nat) : Option V := onTuple x (fun vs => F.nthR vs i) none
def fa (P : Program) (t : TypeId) (x : V) (i : Nat) : Option V :=
 onSome (F.fieldOf P t i) (fun f => onSome (F.layE P f.type) (fun _ => onPtr x (fun r off => some (.ptr r (Nat.add off f.offset))) (fun cs => some (.iptr (F.dropR cs f.offset))) none) none) none
def fld (P : Program) (t : TypeId) (x : V) (i : Nat) : Option V :=
 onSome (F.fieldOf P t i) (fun f => onAgg x (fun cs => G.part (F.layE P f.type) cs f.offset) none) none
def ia (P : Program) (t : TypeId) (x i : V) : Option V :=
 onInt i (fun _ n => onSome (F.elemT P t) (fun e => onSome (F.layE P e) (fun p => onSlice x
  (fun sz l => bif Nat.beq p.1 sz then onNat n (fun m => bif Nat.blt m (F.lenR l) then onSome (F.nthR l m) (fun v => some (.iptr v.cells)) none else none) none else none)
  (fun r off len sz ag => bif Nat.beq p.1 sz then onNat n (fun m => bif Nat.blt m len then some (.ptr r (Nat.add off (Nat.mul m p.1))) else none) none else none) none) none) none) none
def idx (P : Program) (t : TypeId) (x i : V) : Option V :=
 bif isStr (P.underlying t) then onStr x (fun s => onInt i (fun _ n => onNat n (fun m => bif Nat.blt m s.n then some (.int .u8 (.ofNat (s.get m))) else none) none) none) none else none
def ld (P : Program) (t : TypeId) (x : V) (loc : Lo) (hp : Hp) : Option V :=
 onPtr x (fun r off => onRef r
   (fun s g => onCells (F.getR (0, .gone) (path s) loc).2 (fun _ cs => bif Nat.beq g (F.getR (0, .gone) (path s) loc).1 then G.part (F.layE P t) cs off else none) none)
   (fun r => onSome (F.nthR hp.rows r) (fun row => onCells row (fun _ cs => G.part (F.layE P t) cs off) none) none))
  (fun cs => G.part (F.layE P t) cs 0) none
def len (d : Option TypeDesc) (x : V) : Option V :=
 onSlice x (fun _ l => bif isSl d then some (.int .i64 (.ofNat (F.lenR l))) else none) (fun _ _ n _ _ => bif isSl d then some (.int .i64 (.ofNat n)) else none)
  (onStr x (fun s => bif isStr d then some (.int .i64 (.ofNat s.n)) else none) (G.lenV d x))
def oInt (x : Option V) (f : Option Int → Option V) : Option V :=
 Option.rec (motive := fun _ => (Option Int → Option V) → Option V) (fun f => f none) (fun v f => onInt v (fun _ n => f (some n)) none) x f
def slc (P : Program) (t : TypeId) (x : V) (lo hi mx : Option V) : Option V := oInt lo fun lo => oInt hi fun hi => oInt mx fun mx => F.sliceV P t x lo hi mx
def filE (sz : Nat) (ps : List (Nat × V)) (l : List V) : Option (List V) :=
 List.rec (motive := fun _ => List V → Option (List V)) (fun l => some l) (fun p _ ih l =>
  jn (F.weakR p.2) fun v => bif v.live && F.noRefsR v && Nat.beq (F.lenR v.cells) sz && Nat.blt p.1 (F.lenR l) then ih (F.setR l p.1 v) else none) ps l
def bs (P : Program) (t : TypeId) (len : Nat) (ps : List (Nat × V)) : Option V :=
 onSome (F.elemT P t) (fun e => onSome (F.layE P e) (fun p => onSome (F.zeroV P e) (fun z =>
  bif Nat.ble (Nat.mul len p.1) 16777216 && F.noRefsR z && z.live && Nat.beq (F.lenR z.cells) p.1 then onSome (filE p.1 ps (F.repR len z)) (fun l => some (.slice none true p.1 l)) none else none) none) none) none
def mnV (x y : V) : Option V := onInt x (fun k a => onInt y (fun _ b => some (.int k (Bool.rec (motive := fun _ => Int) a b (F.ltI b a)))) none) none
def mxV (x y : V) : Option V := onInt x (fun k a => onInt y (fun _ b => some (.int k (Bool.rec (motive := fun _ => Int) a b (F.ltI a b)))) none) none
def mmOf (c : Call) : Nat := match c.callee, c.args.toList with
 | .builtin .min, [_, _] => 1
 | .builtin .max, [_, _] => 2
 | _, _ => 0
def wv (v : V) (w : Bool) : Option Bool := match v with
 | .bool b => some (b == w)
 | .dead => none
 | _ => some false
def brB (b : Option Bool) (x y : R) : R := onSome b (fun b => Bool.rec (motive := fun _ => R) x y b) none
def al (P : Program) (t : TypeId) (d : Nat) (loc : Lo) (j : V → Lo → R) : R :=
 onSome (F.zeroV P t) (fun z => onSome (F.szOf P t) (fun n => bif z.live && Nat.beq (F.lenR z.cells) n then
  (jn (Nat.succ (F.getR (0, .gone) (path d) loc).1) fun g => j (.ptr (.loc d g) 0) (F.putR (g, .cells false z.cells) (path d) loc)) else none) none) none
def stL (P : Program) (t : TypeId) (s g off : Nat) (x : V) (loc : Lo) (j : Lo → R) : R :=
 onCells (F.getR (0, .gone) (path s) loc).2 (fun frz cs => Bool.rec (motive := fun _ => R)
  (bif Nat.beq g (F.getR (0, .gone) (path s) loc).1 && F.allR V.cellOk x.cells && F.lenIs P t (F.lenR x.cells) then
   onSome (F.setAt cs off x.cells) (fun cs' => j (F.putR (g, .cells false cs') (path s) loc)) none else none) none frz) none
def backO (r : Option Out) (loc : Lo) (tm : Tm) (j : V → Hp → R) : R :=
 onSome r (fun out => Out.rec (motive := fun _ => Tm → Lo → (V → Hp → R) → R) (fun v h _ _ j => j v h) (fun v h tm loc _ => some (.panic v, ⟨tm, loc, h⟩)) out tm loc j) none
def cl (call : CallF) (f : FuncId) (args : List V) (tm : Tm) (loc : Lo) (hp : Hp) (j : V → Lo → Hp → R) : R :=
 onSome (F.exps false ⟨.lf, loc, hp⟩ args) (fun p => backO (call f p.1 p.2.hp) p.2.loc tm (fun v h => j v p.2.loc h)) none
def gtO (tm : Tm) (d : Option Nat) : V := Option.rec (motive := fun _ => V) (.tuple []) (fun d => gt tm d) d
def gen (P : Program) (C : Cfg) (call : CallF) (gl : Nat → Bool) (o : Oper) (tm' tm : Tm) (loc : Lo) (hp : Hp) (j : V → Lo → Hp → R) : R :=
 onSome (F.oneV P C call gl ⟨tm', loc, hp⟩ o) (fun p => Ex.rec (motive := fun _ => Tm → (V → Lo → Hp → R) → St → R) (fun _ j st => j (gtO st.tm o.dst) st.loc st.hp)
  (fun _ _ _ _ => none) (fun _ _ _ => none) (fun v tm _ st => some (.panic v, ⟨tm, st.loc, st.hp⟩)) p.1 tm j p.2) none
def lkT (env : List (Nat × V)) (tm : Tm) (t : Nat) : V := List.rec (motive := fun _ => V) (gt tm t) (fun p _ ih => bif Nat.beq p.1 t then p.2 else ih) env
def lk (env : List (Nat × V)) (tm : Tm) (x : Operand) : V := match x with
 | .tmp t => lkT env tm t
 | .const v => absV v
 | .func f => .fn (.func f) [] []
 | .global _ => .dead
def psh (d : Option Nat) (v : V) (env : List (Nat × V)) : List (Nat × V) := match d with
 | none => env
 | some d => (d, v) :: env
def tmpsOf (o : Oper) : List Nat := o.op.operands.toList.filterMap fun | .tmp t => some t | _ => none
def lay (env : List (Nat × V)) (tm : Tm) (l : List Nat) : Tm := l.foldl (fun T t => pt T t (lkT env tm t)) tm
def flush (keeps : List Nat) (tm : Tm) : List (Nat × V) → List Nat → Tm
 | [], _ => tm
 | (d, v) :: env, seen => bif keeps.contains d && !seen.contains d then pt (flush keeps tm env (d :: seen)) d v else flush keeps tm env seen
def ft0 : Foot := ⟨[], [], false, false, false, false⟩
def ldF (x : V) : Foot := G.onPtr x (fun r _ => G.onRef r (fun s _ => ⟨[s], [], false, false, false, false⟩) (fun _ => ⟨[], [], true, false, true, false⟩)) (fun _ => ft0) ft0
abbrev JD := V → Foot → Lo → Hp → R
abbrev XD := V → Foot → Hp → R
def revA (l : List Foot) (acc : List Foot) : List Foot := List.rec (motive := fun _ => List Foot → List Foot) (fun acc => acc) (fun x _ ih acc => ih (x :: acc)) l acc
def layS (env : List (Nat × V)) (tm : Tm) : Tm := List.rec (motive := fun _ => Tm) tm (fun p _ ih => pt ih p.1 p.2) env
def clD (call : CallF) (f : FuncId) (args : List V) (loc : Lo) (hp : Hp) (j : JD) (x : XD) : R :=
 bif F.allR quiet args then onSome (F.exps false ⟨.lf, loc, hp⟩ args) (fun p => onSome (call f p.1 p.2.hp) (fun out => Out.rec (motive := fun _ => R) (fun v h => j v (F.settle hp h ⟨[], [], true, true, false, false⟩) p.2.loc h) (fun v h => x v ⟨[], [], true, true, false, false⟩ h) out) none) none else none
def genD (P : Program) (C : Cfg) (call : CallF) (gl : Nat → Bool) (o : Oper) (tm' : Tm) (loc : Lo) (hp : Hp) (j : JD) (x : XD) : R :=
 onSome (F.footV P C gl (F.rho ⟨tm', loc, hp⟩) (F.lcf ⟨tm', loc, hp⟩) o) (fun ft => onSome (F.oneV P C call gl ⟨tm', loc, hp⟩ o) (fun p => Ex.rec (motive := fun _ => R) (j (gtO p.2.tm o.dst) (F.settle hp p.2.hp ft) p.2.loc p.2.hp) (fun _ => none) none
  (fun v => bif F.stopOp o then x v ft p.2.hp else none) p.1) none) none
def chk (ops : List Oper) (P1 P2 : List (Nat × Nat)) (l : List Foot) : Bool := F.pairsOk l P1 && (!F.anyFar l ops || F.pairsOk l P2)
def finD (ops : List Oper) (P1 P2 : List (Nat × Nat)) (fs : List Foot) (x : R) : R := jn (revA fs []) fun l => bif chk ops P1 P2 l then x else none
def stopD (P : Program) (C : Cfg) (call : CallF) (gl : Nat → Bool) (all : Array Oper) (P1 P2 : List (Nat × Nat)) (k : Nat) (d : Option Nat) (env : List (Nat × V)) (fs : List Foot) (tm : Tm) (loc : Lo) (hp : Hp) : XD := fun v ft h =>
 onSome (F.drawOps P C call gl all (F.dropR all.toList (Nat.succ k)) (Nat.succ k) (some (k, v, h)) ⟨layS (psh d (.tuple []) env) tm, loc, hp⟩) (fun r => onSome r.2.2 (fun q =>
  jn (revA fs (ft :: r.1)) fun l => bif chk all.toList P1 P2 l && F.traceless ((F.masks all.toList []).getD q.1 0) l 0 then some (.panic q.2.1, ⟨tm, r.2.1.loc, q.2.2⟩) else none) none) none
variable (P : Program) (C : Cfg)
def stp (call : CallF) (gl : Nat → Bool) (o : Oper) (env : List (Nat × V)) (tm : Tm) (loc : Lo) (hp : Hp) (j : V → Lo → Hp → R) : R :=
 match o.op with
 | .move x => j (lk env tm x) loc hp
 | .assign x => j (lk env tm x) loc hp
 | .pick c a b => bO (pick (lk env tm c) (lk env tm a) (lk env tm b)) fun v => j v loc hp
 | .nilCheck x => bO (nilC (lk env tm x)) fun v => j v loc hp
 | .binOp op t x y _ => bO (bin P op t (isConst x || isConst y) (lk env tm x) (lk env tm y)) fun v => j v loc hp
 | .unOp op _ x => bO (G.un op (lk env tm x)) fun v => j v loc hp
 | .extract x i => bO (ext (lk env tm x) i) fun v => j v loc hp
 | .fieldAddr t x i => bO (fa P t (lk env tm x) i) fun v => j v loc hp
 | .field t x i => bO (fld P t (lk env tm x) i) fun v => j v loc hp
 | .indexAddr t x i => bO (ia P t (lk env tm x) (lk env tm i)) fun v => j v loc hp
 | .index t x i => bO (idx P t (lk env tm x) (lk env tm i)) fun v => j v loc hp
 | .load t x => bO (ld P t (lk env tm x) loc hp) fun v => j v loc hp
 | .slice t x lo hi mx => bO (slc P t (lk env tm x) (lo.map (lk env tm)) (hi.map (lk env tm)) (mx.map (lk env tm))) fun v => j v loc hp
 | .buildSlice t n ps => (match C.isArr t with
  | false => bO (bs P t n (ps.toList.map fun p => (p.1, lk env tm p.2))) fun v => j v loc hp
  | true => gen P C call gl o (lay env tm (tmpsOf o)) tm loc hp j)
 | .alloc t => (match o.dst, (match o.dst with | some d => gl d | none => true) with
  | some d, false => al P t d loc (fun v loc => j v loc hp)
  | _, _ => gen P C call gl o (lay env tm (tmpsOf o)) tm loc hp j)
 | .store t a x => G.onPtr (lk env tm a) (fun r off => onRef r (fun s g => stL P t s g off (lk env tm x) loc (fun loc => j (.tuple []) loc hp))
   (fun _ => gen P C call gl o (lay env tm (tmpsOf o)) tm loc hp j)) (fun _ => none) none
 | .call c => (match G.callee c with
  | (1, f) => cl call f (c.args.toList.map (lk env tm)) tm loc hp j
  | (2, _) => (match c.args.toList, c.argTypes[0]? with
   | [x], some t => bO (len (P.underlying t) (lk env tm x)) fun v => j v loc hp
   | _, _ => none)
  | _ => (match mmOf c, c.args.toList with
   | 1, [x, y] => bO (mnV (lk env tm x) (lk env tm y)) fun v => j v loc hp
   | 2, [x, y] => bO (mxV (lk env tm x) (lk env tm y)) fun v => j v loc hp
   | _, _ => gen P C call gl o (lay env tm (tmpsOf o)) tm loc hp j))
 | _ => gen P C call gl o (lay env tm (tmpsOf o)) tm loc hp j
def comp (call : CallF) (gl : Nat → Bool) (all : Array Oper) (keeps : List Nat) : List Oper → List (Nat × V) → Tm → Lo → Hp → K → R
 | [], env, tm, loc, hp, k => k (flush keeps tm env []) loc hp
 | o :: rest, env, tm, loc, hp, k => match o.guard with
  | none => stp P C call gl o env tm loc hp (fun v loc hp => comp call gl all keeps rest (psh o.dst v env) tm loc hp k)
  | some (i, w) => match (all[i]?).bind (·.dst) with
   | none => none
   | some d => jn (fun v loc hp => comp call gl all keeps rest (psh o.dst v env) tm loc hp k) fun j =>
    brB (wv (lkT env tm d) w) (j (.tuple []) loc hp) (stp P C call gl o env tm loc hp j)
def stpD (call : CallF) (gl : Nat → Bool) (o : Oper) (env : List (Nat × V)) (tm : Tm) (loc : Lo) (hp : Hp) (j : JD) (x : XD) : R :=
 match o.op with
 | .move a => j (lk env tm a) ft0 loc hp
 | .assign a => j (lk env tm a) ft0 loc hp
 | .pick c a b => bO (pick (lk env tm c) (lk env tm a) (lk env tm b)) fun v => j v ft0 loc hp
 | .nilCheck a => bO (nilC (lk env tm a)) fun v => j v ft0 loc hp
 | .binOp op t a b _ => bO (bin P op t (isConst a || isConst b) (lk env tm a) (lk env tm b)) fun v => j v ft0 loc hp
 | .unOp op _ a => bO (G.un op (lk env tm a)) fun v => j v ft0 loc hp
 | .extract a i => bO (ext (lk env tm a) i) fun v => j v ft0 loc hp
 | .fieldAddr t a i => bO (fa P t (lk env tm a) i) fun v => j v ft0 loc hp
 | .field t a i => bO (fld P t (lk env tm a) i) fun v => j v ft0 loc hp
 | .indexAddr t a i => bO (ia P t (lk env tm a) (lk env tm i)) fun v => j v ft0 loc hp
 | .index t a i => bO (idx P t (lk env tm a) (lk env tm i)) fun v => j v ft0 loc hp
 | .load t a => bO (ld P t (lk env tm a) loc hp) fun v => j v (ldF (lk env tm a)) loc hp
 | .slice t a lo hi mx => bO (slc P t (lk env tm a) (lo.map (lk env tm)) (hi.map (lk env tm)) (mx.map (lk env tm))) fun v => j v ft0 loc hp
 | .call c => (match G.callee c with
  | (1, f) => clD call f (c.args.toList.map (lk env tm)) loc hp j x
  | (2, _) => (match c.args.toList, c.argTypes[0]? with
   | [a], some t => bO (len (P.underlying t) (lk env tm a)) fun v => j v ft0 loc hp
   | _, _ => none)
  | _ => (match mmOf c, c.args.toList with
   | 1, [a, b] => bO (mnV (lk env tm a) (lk env tm b)) fun v => j v ft0 loc hp
   | 2, [a, b] => bO (mxV (lk env tm a) (lk env tm b)) fun v => j v ft0 loc hp
   | _, _ => genD P C call gl o (lay env tm (tmpsOf o)) loc hp j x))
 | _ => genD P C call gl o (lay env tm (tmpsOf o)) loc hp j x
def compD (call : CallF) (gl : Nat → Bool) (all : Array Oper) (keeps : List Nat) (P1 P2 : List (Nat × Nat)) : List Oper → Nat → List (Nat × V) → List Foot → Tm → Lo → Hp → K → R
 | [], k, env, fs, tm, loc, hp, kk => finD all.toList P1 P2 fs (kk (flush keeps tm env []) loc hp)
 | o :: rest, k, env, fs, tm, loc, hp, kk => match o.guard with
  | none => stpD P C call gl o env tm loc hp (fun v ft loc hp => compD call gl all keeps P1 P2 rest (k + 1) (psh o.dst v env) (ft :: fs) tm loc hp kk) (stopD P C call gl all P1 P2 k o.dst env fs tm loc hp)
  | some (i, w) => match (all[i]?).bind (·.dst) with
   | none => none
   | some d => jn (fun v ft loc hp => compD call gl all keeps P1 P2 rest (k + 1) (psh o.dst v env) (ft :: fs) tm loc hp kk) fun j =>
    brB (wv (lkT env tm d) w) (j (.tuple []) ft0 loc hp) (stpD P C call gl o env tm loc hp j (stopD P C call gl all P1 P2 k o.dst env fs tm loc hp))
inductive RC where
 | skip
 | reg (f : CallF → Tm → Lo → Hp → K → R)
 | seq (a b : RC)
 | cond (x : Operand) (a b : RC)
 | block (id : Nat) (b : RC)
 | loop (b : RC)
 | exit (id : Nat)
 | ret
 | bad
def mild (o : Oper) : Bool := match o.op with
 | .move _ | .assign _ | .pick _ _ _ | .nilCheck _ | .unOp _ _ _ | .extract _ _ | .fieldAddr _ _ _ | .field _ _ _ | .indexAddr _ _ _ | .index _ _ _ | .load _ _ | .binOp _ _ _ _ _ | .slice _ _ _ _ _ => true
 | .call c => Nat.beq (G.callee c).1 2 || !Nat.beq (mmOf c) 0
 | _ => false
def mildR (f id : Nat) (ops : Array Oper) : Bool := ops.toList.all mild && (C.pairs f id).isEmpty && (C.pairsH f id).isEmpty
def toRC (keeps : List Nat) (f : FuncId) : Code → RC
 | .skip => .skip
 | .region id ops draw => .reg (bif !draw || mildR C f id ops then (fun call tm loc hp k => comp P C call (C.glob f) ops keeps ops.toList [] tm loc hp k)
   else (fun call tm loc hp k => compD P C call (C.glob f) ops keeps (C.pairs f id) (C.pairsH f id) ops.toList 0 [] [] tm loc hp k))
 | .seq a b => .seq (toRC keeps f a) (toRC keeps f b)
 | .cond c a b => .cond c (toRC keeps f a) (toRC keeps f b)
 | .block id b => .block id (toRC keeps f b)
 | .loop b => .loop (toRC keeps f b)
 | .exit i => .exit i
 | .ret => .ret
 | _ => .bad
def done : K := fun tm loc hp => some (.normal, ⟨tm, loc, hp⟩)
def run (call : CallF) (fuel : Nat) (c : RC) (tm : Tm) (loc : Lo) (hp : Hp) (k : K) : R :=
 RC.rec (motive := fun _ => Tm → Lo → Hp → K → R)
  (fun tm loc hp k => k tm loc hp)
  (fun f tm loc hp k => f call tm loc hp k)
  (fun _ _ iha ihb tm loc hp k => iha tm loc hp (fun tm loc hp => ihb tm loc hp k))
  (fun x _ _ iha ihb tm loc hp k => onBool (lk [] tm x) (fun b => Bool.rec (motive := fun _ => R) (ihb tm loc hp k) (iha tm loc hp k) b) none)
  (fun id _ ih tm loc hp k => onSome (ih tm loc hp done) (fun p => Ex.rec (motive := fun _ => Nat → K → St → R) (fun _ k st => k st.tm st.loc st.hp)
   (fun i id k st => bif Nat.beq i id then k st.tm st.loc st.hp else some (.exit i, st)) (fun _ _ st => some (.ret, st)) (fun v _ _ st => some (.panic v, st)) p.1 id k p.2) none)
  (fun _ ih tm loc hp k => Nat.rec (motive := fun _ => K) (fun _ _ _ => none) (fun _ il tm loc hp => ih tm loc hp il) fuel tm loc hp)
  (fun i tm loc hp _ => some (.exit i, ⟨tm, loc, hp⟩))
  (fun tm loc hp _ => some (.ret, ⟨tm, loc, hp⟩))
  (fun _ _ _ _ => none)
  c tm loc hp k
structure Fc where
 rc : RC
 res : List ResultVar
def body (tbl : Nat → Option Fc) (call : CallF) (fuel : Nat) (f : FuncId) (args : List V) (h : Hp) : Option Out :=
 onSome (tbl f) (fun fc => onSome (run call fuel fc.rc (F.startTm args) .lf { h with dirty := none } done) (fun p => Ex.rec (motive := fun _ => St → Option Out)
  (fun st => onSome (F.resV P st fc.res) (fun l => onSome (F.exps false st l) (fun q => match q.1 with
   | [v] => some (.val v (F.backHp h q.2.hp [v]))
   | vs => some (.val (.tuple vs) (F.backHp h q.2.hp vs))) none) none)
  (fun _ _ => none)
  (fun st => onSome (F.resV P st fc.res) (fun l => onSome (F.exps false st l) (fun q => match q.1 with
   | [v] => some (.val v (F.backHp h q.2.hp [v]))
   | vs => some (.val (.tuple vs) (F.backHp h q.2.hp vs))) none) none)
  (fun v st => some (.panic v (F.backHp h st.hp [v]))) p.1 p.2) none) none
def fn (kn : Kn) (tbl : Nat → Option Fc) (n : Nat) : CallF :=
 Nat.rec (motive := fun _ => CallF) (fun _ _ _ => none) (fun n ih f args h => onSome (kn f) (fun k => k ih args h) (body P tbl ih n f args h)) n
end
end Go.AM.S
end

section
namespace Go.AM.S
open Go Go.AM
open _root_.Go.AM.G (R next next_next next_done okO_eq opd_eq onSome_eq oneV_pure)
theorem gt_eq (tm : Tm) (t : Nat) : gt tm t = aget .dead tm t := F.getR_eq _ _ _
theorem pt_eq (tm : Tm) (t : Nat) (v : V) : pt tm t v = aset tm t v := F.putR_eq _ _ _
def Ag (keeps : List Nat) (T T' : Tm) : Prop := ∀ t ∈ keeps, aget .dead T t = aget .dead T' t
def RelR (keeps : List Nat) (r r' : R) : Prop := match r, r' with
 | none, none => True
 | some (e, s), some (e', s') => e = e' ∧ s.loc = s'.loc ∧ s.hp = s'.hp ∧ ((∃ v, e = .panic v) ∨ Ag keeps s.tm s'.tm)
 | _, _ => False
theorem RelR.none (keeps : List Nat) : RelR keeps none none := trivial
section
variable {P : Program} {C : Cfg} {call : CallF} {gl : Nat → Bool} {o : Oper} {st : St} {env : List (Nat × V)} {tm : Tm} {keeps : List Nat}
theorem st_eta (st : St) : ({ st with loc := st.loc, hp := st.hp } : St) = st := rfl
theorem lk_ok (h : ∀ t ∈ tmpsOf o, aget .dead st.tm t = lkT env tm t) {x : Operand} (hx : x ∈ o.op.operands.toList) : AM.opd st.ρ x = lk env tm x := by
 cases x with
 | tmp t => exact h t (by unfold tmpsOf; rw [List.mem_filterMap]; exact ⟨.tmp t, hx, rfl⟩)
 | _ => rfl
theorem gopd_ok (h : ∀ t ∈ tmpsOf o, aget .dead st.tm t = lkT env tm t) {x : Operand} (hx : x ∈ o.op.operands.toList) : G.opd x st = lk env tm x := by
 rw [opd_eq]; exact lk_ok h hx
theorem rel_val {v : Option V} {kk : G.K} {j : V → Lo → Hp → R} (ho : next (oneV P C call gl st o) kk = next (v.map fun v => (Ex.normal, putV st o.dst v)) kk)
  (hj : ∀ v l h, RelR keeps (kk (putV { st with loc := l, hp := h } o.dst v)) (j v l h)) : RelR keeps (next (oneV P C call gl st o) kk) (bO v fun v => j v st.loc st.hp) := by
 rw [ho]
 cases v with
 | none => trivial
 | some v => exact hj v st.loc st.hp
theorem okO_val (d : Option Nat) (v : Option V) (k : G.K) : G.okO d st v k = next (v.map fun v => (Ex.normal, putV st d v)) k := okO_eq d st v k
theorem pick_eq {c a b : Operand} {k : G.K} : G.doPick c a b P C call gl o st k = G.okO o.dst st (pick (G.opd c st) (G.opd a st) (G.opd b st)) k := by
 show G.onBool (G.opd c st) (fun q => Bool.rec (motive := fun _ => R) (G.ok o.dst st (G.opd b st) k) (G.ok o.dst st (G.opd a st) k) q) none = _
 cases G.opd c st with
 | bool q => cases q <;> rfl
 | _ => rfl
theorem ext_eq {x : Operand} {i : Nat} {k : G.K} : G.doExtract x i P C call gl o st k = G.okO o.dst st (ext (G.opd x st) i) k := by
 show G.onTuple (G.opd x st) (fun vs => G.okO o.dst st (F.nthR vs i) k) none = _
 cases G.opd x st <;> rfl
theorem fa_eq {t : TypeId} {x : Operand} {i : Nat} {k : G.K} : G.doFieldAddr t x i P C call gl o st k = G.okO o.dst st (fa P t (G.opd x st) i) k := by
 show G.onSome (F.fieldOf P t i) (fun f => G.onSome (F.layE P f.type) (fun _ => G.onPtr (G.opd x st) (fun r off => G.ok o.dst st (.ptr r (Nat.add off f.offset)) k) (fun cs => G.ok o.dst st (.iptr (F.dropR cs f.offset)) k) none) none) none = _
 unfold fa
 cases F.fieldOf P t i with
 | none => rfl
 | some f =>
  show G.onSome (F.layE P f.type) _ none = G.okO o.dst st (G.onSome (F.layE P f.type) _ none) k
  cases F.layE P f.type with
  | none => rfl
  | some p => cases G.opd x st <;> rfl
theorem fld_eq {t : TypeId} {x : Operand} {i : Nat} {k : G.K} : G.doField t x i P C call gl o st k = G.okO o.dst st (fld P t (G.opd x st) i) k := by
 show G.onSome (F.fieldOf P t i) (fun f => G.onAgg (G.opd x st) (fun cs => G.okO o.dst st (G.part (F.layE P f.type) cs f.offset) k) none) none = _
 unfold fld
 cases F.fieldOf P t i with
 | none => rfl
 | some f => cases G.opd x st <;> rfl
theorem onNat_k {n : Int} {m : Nat} {f : Nat → Option V} {k : G.K} {d : Option Nat} : G.onNat n (fun q => bif Nat.blt q m then G.okO d st (f q) k else none) none = G.okO d st (G.onNat n (fun q => bif Nat.blt q m then f q else none) none) k := by
 cases n with
 | ofNat q => show (bif Nat.blt q m then G.okO d st (f q) k else none) = G.okO d st (bif Nat.blt q m then f q else none) k; cases Nat.blt q m <;> rfl
 | negSucc q => rfl
theorem ia_eq {t : TypeId} {x i : Operand} {k : G.K} : G.doIndexAddr t x i P C call gl o st k = G.okO o.dst st (ia P t (G.opd x st) (G.opd i st)) k := by
 show G.onInt (G.opd i st) (fun _ n => G.onSome (F.elemT P t) (fun e => G.onSome (F.layE P e) (fun p => G.onSlice (G.opd x st)
  (fun sz l => bif Nat.beq p.1 sz then G.onNat n (fun m => bif Nat.blt m (F.lenR l) then G.onSome (F.nthR l m) (fun v => G.ok o.dst st (.iptr v.cells) k) none else none) none else none)
  (fun r off len sz ag => bif Nat.beq p.1 sz then G.onNat n (fun m => bif Nat.blt m len then G.ok o.dst st (.ptr r (Nat.add off (Nat.mul m p.1))) k else none) none else none) none) none) none) none = _
 unfold ia
 cases G.opd i st with
 | int ki n =>
  show G.onSome (F.elemT P t) _ none = G.okO o.dst st (G.onSome (F.elemT P t) _ none) k
  cases F.elemT P t with
  | none => rfl
  | some e =>
   show G.onSome (F.layE P e) _ none = G.okO o.dst st (G.onSome (F.layE P e) _ none) k
   cases F.layE P e with
   | none => rfl
   | some p =>
    cases G.opd x st with
    | slice tok full sz l =>
     show (bif Nat.beq p.1 sz then G.onNat n (fun m => bif Nat.blt m (F.lenR l) then G.onSome (F.nthR l m) (fun v => G.ok o.dst st (.iptr v.cells) k) none else none) none else none) =
      G.okO o.dst st (bif Nat.beq p.1 sz then G.onNat n (fun m => bif Nat.blt m (F.lenR l) then G.onSome (F.nthR l m) (fun v => some (.iptr v.cells)) none else none) none else none) k
     cases Nat.beq p.1 sz with
     | false => rfl
     | true =>
      simp only [cond_true]
      rw [← onNat_k]
      congr 1
      funext m
      cases Nat.blt m (F.lenR l) with
      | false => rfl
      | true => simp only [cond_true]; cases F.nthR l m <;> rfl
    | arr r off len lim sz ag =>
     show (bif Nat.beq p.1 sz then G.onNat n (fun m => bif Nat.blt m len then G.ok o.dst st (.ptr r (Nat.add off (Nat.mul m p.1))) k else none) none else none) =
      G.okO o.dst st (bif Nat.beq p.1 sz then G.onNat n (fun m => bif Nat.blt m len then some (.ptr r (Nat.add off (Nat.mul m p.1))) else none) none else none) k
     cases Nat.beq p.1 sz with
     | false => rfl
     | true => simp only [cond_true]; rw [← onNat_k]; rfl
    | _ => rfl
 | _ => rfl
theorem idx_eq {t : TypeId} {x i : Operand} {k : G.K} : G.doIndex t x i P C call gl o st k = G.okO o.dst st (idx P t (G.opd x st) (G.opd i st)) k := by
 show (bif G.isStr (P.underlying t) then G.onStr (G.opd x st) (fun s => G.onInt (G.opd i st) (fun _ n => G.onNat n (fun m => bif Nat.blt m s.n then G.ok o.dst st (.int .u8 (.ofNat (s.get m))) k else none) none) none) none else none) = _
 unfold idx
 cases G.isStr (P.underlying t) with
 | false => rfl
 | true =>
  simp only [cond_true]
  cases G.opd x st with
  | str s =>
   cases G.opd i st with
   | int ki n =>
    show G.onNat n (fun m => bif Nat.blt m s.n then G.ok o.dst st (.int .u8 (.ofNat (s.get m))) k else none) none = G.okO o.dst st (G.onNat n (fun m => bif Nat.blt m s.n then some (.int .u8 (.ofNat (s.get m))) else none) none) k
    rw [← onNat_k]; rfl
   | _ => rfl
  | _ => rfl
theorem ld_eq {t : TypeId} {x : Operand} {k : G.K} : G.doLoad t x P C call gl o st k = G.okO o.dst st (ld P t (G.opd x st) st.loc st.hp) k := by
 show G.onPtr (G.opd x st) (fun r off => G.onRef r
   (fun s g => G.onCells (F.getR (0, .gone) (path s) st.loc).2 (fun _ cs => bif Nat.beq g (F.getR (0, .gone) (path s) st.loc).1 then G.okO o.dst st (G.part (F.layE P t) cs off) k else none) none)
   (fun r => G.onSome (F.nthR st.hp.rows r) (fun row => G.onCells row (fun _ cs => G.okO o.dst st (G.part (F.layE P t) cs off) k) none) none))
  (fun cs => G.okO o.dst st (G.part (F.layE P t) cs 0) k) none = _
 unfold ld
 cases G.opd x st with
 | ptr r off =>
  cases r with
  | loc s g =>
   show G.onCells (F.getR (0, .gone) (path s) st.loc).2 (fun _ cs => bif Nat.beq g (F.getR (0, .gone) (path s) st.loc).1 then G.okO o.dst st (G.part (F.layE P t) cs off) k else none) none =
    G.okO o.dst st (G.onCells (F.getR (0, .gone) (path s) st.loc).2 (fun _ cs => bif Nat.beq g (F.getR (0, .gone) (path s) st.loc).1 then G.part (F.layE P t) cs off else none) none) k
   cases (F.getR (0, .gone) (path s) st.loc).2 with
   | cells b cs =>
    show (bif Nat.beq g (F.getR (0, .gone) (path s) st.loc).1 then G.okO o.dst st (G.part (F.layE P t) cs off) k else none) = G.okO o.dst st (bif Nat.beq g (F.getR (0, .gone) (path s) st.loc).1 then G.part (F.layE P t) cs off else none) k
    cases Nat.beq g (F.getR (0, .gone) (path s) st.loc).1 <;> rfl
   | _ => rfl
  | glob r =>
   show G.onSome (F.nthR st.hp.rows r) (fun row => G.onCells row (fun _ cs => G.okO o.dst st (G.part (F.layE P t) cs off) k) none) none =
    G.okO o.dst st (G.onSome (F.nthR st.hp.rows r) (fun row => G.onCells row (fun _ cs => G.part (F.layE P t) cs off) none) none) k
   cases F.nthR st.hp.rows r with
   | none => rfl
   | some row => cases row <;> rfl
 | _ => rfl
theorem len_eq (d : Option TypeDesc) (x : V) : len d x = G.lenV d x := by
 unfold len
 have hs : ∀ n : Nat, (bif G.isSl d then some (V.int .i64 (.ofNat n)) else none) = (match d with | some (.slice _) => some (V.int .i64 n) | _ => none) := by
  intro n
  cases d with
  | none => rfl
  | some d => cases d <;> rfl
 cases x with
 | slice tok full sz l =>
  show (bif G.isSl d then some (V.int .i64 (.ofNat (F.lenR l))) else none) = _
  rw [F.lenR_eq, hs]
  cases d with
  | none => rfl
  | some d => cases d <;> rfl
 | arr r off n lim sz ag =>
  show (bif G.isSl d then some (V.int .i64 (.ofNat n)) else none) = _
  rw [hs]
  cases d with
  | none => rfl
  | some d => cases d <;> rfl
 | str s =>
  show (bif G.isStr d then some (V.int .i64 (.ofNat s.n)) else none) = _
  cases d with
  | none => rfl
  | some d => cases d <;> rfl
 | _ => rfl
theorem nil_eq {x : Operand} {kk : G.K} (h : o.op = .nilCheck x) : next (oneV P C call gl st o) kk = next ((nilC (AM.opd st.ρ x)).map fun v => (Ex.normal, putV st o.dst v)) kk := by
 rw [oneV_pure (v := nilC (AM.opd st.ρ x)) (by
  simp only [locV, h, pureV]
  cases AM.opd st.ρ x <;> rfl) (by intro _; simp only [stepG, h])]
theorem oInt_eq {x : Option Operand} {f : Option Int → Option V} : oInt (x.map (AM.opd st.ρ)) f = match optInt st.ρ x with | some n => f n | none => none := by
 cases x with
 | none => rfl
 | some x =>
  show G.onInt (AM.opd st.ρ x) (fun _ n => f (some n)) none = _
  simp only [optInt]
  cases AM.opd st.ρ x <;> rfl
theorem slc_eq {t : TypeId} {x : Operand} {lo hi mx : Option Operand} {kk : G.K} (h : o.op = .slice t x lo hi mx) :
  next (oneV P C call gl st o) kk = next ((slc P t (AM.opd st.ρ x) (lo.map (AM.opd st.ρ)) (hi.map (AM.opd st.ρ)) (mx.map (AM.opd st.ρ))).map fun v => (Ex.normal, putV st o.dst v)) kk := by
 rw [oneV_pure (v := slc P t (AM.opd st.ρ x) (lo.map (AM.opd st.ρ)) (hi.map (AM.opd st.ρ)) (mx.map (AM.opd st.ρ))) (by
  simp only [locV, h, pureV, slc, oInt_eq, F.e_sliceV]
  cases optInt st.ρ lo with
  | none => rfl
  | some a =>
   cases optInt st.ρ hi with
   | none => rfl
   | some b =>
    cases optInt st.ρ mx with
    | none => rfl
    | some c => rfl) (by intro _; simp only [stepG, h])]
theorem filE_eq (sz : Nat) (ρ : Nat → V) : ∀ (ps : List (Nat × Operand)) (l : List V), filE sz (ps.map fun p => (p.1, AM.opd ρ p.2)) l = fillE sz ρ ps l
 | [], l => rfl
 | (i, x) :: ps, l => by
  show (bif (F.weakR (AM.opd ρ x)).live && F.noRefsR (F.weakR (AM.opd ρ x)) && Nat.beq (F.lenR (F.weakR (AM.opd ρ x)).cells) sz && Nat.blt i (F.lenR l) then filE sz (ps.map fun p => (p.1, AM.opd ρ p.2)) (F.setR l i (F.weakR (AM.opd ρ x))) else none) = _
  rw [F.e_weakR, F.e_noRefsR, F.lenR_eq, F.lenR_eq, F.setR_eq, filE_eq sz ρ ps]
  rfl
theorem bs_eq {t : TypeId} {n : Nat} {ps : Array (Nat × Operand)} {kk : G.K} (h : o.op = .buildSlice t n ps) (hA : C.isArr t = false) :
  next (oneV P C call gl st o) kk = next ((bs P t n (ps.toList.map fun p => (p.1, AM.opd st.ρ p.2))).map fun v => (Ex.normal, putV st o.dst v)) kk := by
 have hg : stepG P C gl st o = none := by
  simp only [stepG, h, hA, Bool.false_and, cond_false]
  split
  ·split <;> rfl
  ·rfl
 rw [oneV_pure (v := bs P t n (ps.toList.map fun p => (p.1, AM.opd st.ρ p.2))) (by
  simp only [locV, h, pureV, bs, F.e_elemT, F.e_layE, F.e_zeroV]
  cases elemT P t with
  | none => rfl
  | some e =>
   simp only [G.onSome_eq]
   cases layE P e with
   | none => rfl
   | some p =>
    obtain ⟨sz, g⟩ := p
    cases zeroV P e with
    | none => rfl
    | some z =>
     simp only [hA, F.e_noRefsR, F.lenR_eq, F.repR_eq, filE_eq]
     show (bif Nat.ble (n * sz) 16777216 && z.noRefs && z.live && Nat.beq z.cells.length sz then _ else none : Option V).map _ = _
     show Option.map _ (bif (true && Nat.ble (n * sz) 16777216 && z.noRefs && z.live && Nat.beq z.cells.length sz) then (fillE sz st.ρ ps.toList (List.replicate n z)).map (V.slice none true sz) else none) = _
     rw [Bool.true_and]
     show _ = Option.map _ (bif (Nat.ble (Nat.mul n sz) 16777216 && z.noRefs && z.live && Nat.beq z.cells.length sz) then _ else none)
     cases (Nat.ble (n * sz) 16777216 && z.noRefs && z.live && Nat.beq z.cells.length sz) with
     | false => rfl
     | true => simp only [cond_true]; cases fillE sz st.ρ ps.toList (List.replicate n z) <;> rfl) (fun _ => hg)]
end
end Go.AM.S
end

section
namespace Go.AM.S
open Go Go.AM
open _root_.Go.AM.G (R next next_next next_done okO_eq opd_eq onSome_eq oneV_pure)
section
variable {P : Program} {C : Cfg} {call : CallF} {gl : Nat → Bool} {o : Oper} {st : St} {env : List (Nat × V)} {tm : Tm} {keeps : List Nat}
def Two (o : Oper) (st : St) (T : Tm) (r r' : R) : Prop := match r, r' with
 | none, none => True
 | some (.normal, s), some (.normal, s') => ∃ v l h, s = putV { st with loc := l, hp := h } o.dst v ∧ s' = putV { ({ st with loc := l, hp := h } : St) with tm := T } o.dst v
 | some (.panic v, s), some (.panic v', s') => v = v' ∧ s.loc = s'.loc ∧ s.hp = s'.hp
 | _, _ => False
theorem stepV_tm {st : St} {o : Oper} {r : Res} (h : stepV P C gl st o = some r) : r.as st.tm = r := by
 have := stepV_as (P := P) (C := C) (gl := gl) (T := st.tm) (st := st) (o := o) (fun x _ => rfl)
 have e : st.as st.tm = st := rfl
 rw [e, h] at this
 simp at this
 exact this.symm
theorem oneV_two (T : Tm) (h : Agree st.ρ (St.ρ (st.as T)) o) : Two o st T (oneV P C call gl st o) (oneV P C call gl (st.as T) o) := by
 unfold oneV
 rw [stepV_as h]
 cases hs : stepV P C gl st o with
 | none => trivial
 | some r =>
  have ht := stepV_tm hs
  cases r with
  | val v s =>
   simp only [Res.as, Res.val.injEq, true_and] at ht
   refine ⟨v, s.loc, s.hp, ?_, rfl⟩
   have : ({ st with loc := s.loc, hp := s.hp } : St) = s := by rw [← ht]; rfl
   rw [this]
  | enter f args s =>
   simp only [Res.as, Res.enter.injEq, true_and] at ht
   show Two o st T (match call f args s.hp with | some (.val v h) => some (.normal, putV { s with hp := h } o.dst v) | some (.panic v h) => some (.panic v, { s with hp := h }) | none => none)
    (match call f args s.hp with | some (.val v h) => some (.normal, putV { s.as T with hp := h } o.dst v) | some (.panic v h) => some (.panic v, { s.as T with hp := h }) | none => none)
   cases call f args s.hp with
   | none => trivial
   | some out =>
    cases out with
    | val v h =>
     refine ⟨v, s.loc, h, ?_, rfl⟩
     have : ({ st with loc := s.loc, hp := h } : St) = { s with hp := h } := by rw [← ht]; rfl
     rw [this]
    | panic v h => exact ⟨rfl, rfl, rfl⟩
  | panic v s => exact ⟨rfl, rfl, rfl⟩
theorem lay_get (env : List (Nat × V)) (tm : Tm) : ∀ (l : List Nat) (T : Tm) (t : Nat), aget .dead (l.foldl (fun T t => pt T t (lkT env tm t)) T) t = aget .dead T t ∨ aget .dead (l.foldl (fun T t => pt T t (lkT env tm t)) T) t = lkT env tm t
 | [], T, t => .inl rfl
 | u :: l, T, t => by
  simp only [List.foldl_cons]
  rcases lay_get env tm l (pt T u (lkT env tm u)) t with h | h
  ·rw [h, pt_eq, aget_aset]
   by_cases e : u = t
   ·subst e; right; simp
   ·left; simp [e]
  ·exact .inr h
theorem lay_in (env : List (Nat × V)) (tm : Tm) : ∀ (l : List Nat) (T : Tm) (t : Nat), t ∈ l → aget .dead (l.foldl (fun T t => pt T t (lkT env tm t)) T) t = lkT env tm t
 | [], T, t, h => by simp at h
 | u :: l, T, t, h => by
  simp only [List.foldl_cons]
  by_cases hl : t ∈ l
  ·exact lay_in env tm l _ t hl
  ·have e : t = u := by rcases List.mem_cons.1 h with e | e; exact e; exact absurd e hl
   subst e
   rcases lay_get env tm l (pt T t (lkT env tm t)) t with h | h
   ·rw [h, pt_eq, aget_aset]; simp
   ·exact h
theorem gtO_put (T : Tm) (l : Lo) (h : Hp) (d : Option Nat) (v : V) (i : Nat) (hd : d = some i) : gtO (putV { tm := T, loc := l, hp := h } d v).tm d = v := by
 subst hd
 show gt (aset T i v) i = v
 rw [gt_eq, aget_aset]; simp
theorem gen_ok (hI : ∀ t ∈ tmpsOf o, aget .dead st.tm t = lkT env tm t) {kk : G.K} {j : V → Lo → Hp → R}
  (hj : ∀ v l h, RelR keeps (kk (putV { st with loc := l, hp := h } o.dst v)) (j v l h)) :
  RelR keeps (next (oneV P C call gl st o) kk) (gen P C call gl o (lay env tm (tmpsOf o)) tm st.loc st.hp j) := by
 have hag : Agree st.ρ (St.ρ (st.as (lay env tm (tmpsOf o)))) o := by
  intro x hx
  cases x with
  | tmp t =>
   have ht : t ∈ tmpsOf o := by unfold tmpsOf; rw [List.mem_filterMap]; exact ⟨.tmp t, hx, rfl⟩
   show aget .dead st.tm t = aget .dead (lay env tm (tmpsOf o)) t
   rw [hI t ht]
   exact (lay_in env tm (tmpsOf o) tm t ht).symm
  | _ => rfl
 have h2 := oneV_two (P := P) (C := C) (call := call) (gl := gl) (lay env tm (tmpsOf o)) hag
 unfold gen
 rw [F.e_oneV]
 have e : st.as (lay env tm (tmpsOf o)) = ⟨lay env tm (tmpsOf o), st.loc, st.hp⟩ := rfl
 rw [e] at h2
 generalize oneV P C call gl st o = r at h2 ⊢
 generalize oneV P C call gl ⟨lay env tm (tmpsOf o), st.loc, st.hp⟩ o = r' at h2 ⊢
 cases r with
 | none =>
  cases r' with
  | none => trivial
  | some p => exact h2.elim
 | some p =>
  obtain ⟨ex, s⟩ := p
  cases r' with
  | none => cases ex <;> exact h2.elim
  | some p' =>
   obtain ⟨ex', s'⟩ := p'
   cases ex with
   | normal =>
    cases ex' with
    | normal =>
     obtain ⟨v, l, h, h3, h4⟩ := h2
     subst h3; subst h4
     show RelR keeps (kk (putV { st with loc := l, hp := h } o.dst v)) (j (gtO (putV { tm := lay env tm (tmpsOf o), loc := l, hp := h } o.dst v).tm o.dst) (putV { tm := lay env tm (tmpsOf o), loc := l, hp := h } o.dst v).loc (putV { tm := lay env tm (tmpsOf o), loc := l, hp := h } o.dst v).hp)
     cases hd : o.dst with
     | none => have := hj (.tuple []) l h; rw [hd] at this; exact this
     | some i =>
      have e1 := gtO_put (lay env tm (tmpsOf o)) l h (some i) v i rfl
      rw [e1]
      have := hj v l h
      rw [hd] at this
      exact this
    | _ => exact h2.elim
   | panic v =>
    cases ex' with
    | panic v' =>
     obtain ⟨rfl, h3, h4⟩ := h2
     exact ⟨rfl, h3, h4, .inl ⟨v, rfl⟩⟩
    | _ => exact h2.elim
   | _ => exact h2.elim
theorem relR_some {e : Ex} {s s' : St} (h1 : s.loc = s'.loc) (h2 : s.hp = s'.hp) (h3 : Ag keeps s.tm s'.tm) : RelR keeps (some (e, s)) (some (e, s')) := ⟨rfl, h1, h2, .inr h3⟩
theorem lc_get (st : St) (s : Nat) : F.getR (0, .gone) (path s) st.loc = st.lc s := F.getR_eq _ _ _
theorem al_ok {t : TypeId} {d : Nat} (h : o.op = .alloc t) (hd : o.dst = some d) (hg : gl d = false) {kk : G.K} {j : V → Lo → Hp → R}
  (hj : ∀ v l h, RelR keeps (kk (putV { st with loc := l, hp := h } o.dst v)) (j v l h)) :
  RelR keeps (next (oneV P C call gl st o) kk) (al P t d st.loc (fun v loc => j v loc st.hp)) := by
 unfold al
 rw [F.e_zeroV, F.e_szOf, lc_get]
 have hgg : stepG P C gl st o = none := by simp only [stepG, h, hd, hg]; split <;> simp
 cases hz : zeroV P t with
 | none =>
  have hl : locV P C gl st.ρ st.lc o = none := by simp only [locV, h, hd, hg, cond_false, hz]
  simp only [oneV, stepV, hl, hgg]; trivial
 | some z =>
  show RelR keeps _ (G.onSome (szOf P t) _ none)
  cases hn : szOf P t with
  | none =>
   have hl : locV P C gl st.ρ st.lc o = none := by simp only [locV, h, hd, hg, cond_false, hz, hn]
   simp only [oneV, stepV, hl, hgg]; trivial
  | some n =>
   show RelR keeps _ (bif z.live && Nat.beq (F.lenR z.cells) n then jn (Nat.succ (st.lc d).1) (fun g => j (.ptr (.loc d g) 0) (F.putR (g, .cells false z.cells) (path d) st.loc) st.hp) else none)
   rw [F.lenR_eq]
   cases hb : (z.live && Nat.beq z.cells.length n) with
   | false =>
    have hl : locV P C gl st.ρ st.lc o = none := by simp only [locV, h, hd, hg, cond_false, hz, hn, hb]
    simp only [oneV, stepV, hl, hgg]; trivial
   | true =>
    have hl : locV P C gl st.ρ st.lc o = some (.ptr (.loc d ((st.lc d).1 + 1)) 0, some (d, (st.lc d).1 + 1, .cells false z.cells)) := by simp only [locV, h, hd, hg, cond_false, hz, hn, hb, cond_true]
    simp only [oneV, stepV, hl]
    have := hj (.ptr (.loc d ((st.lc d).1 + 1)) 0) (aset st.loc d ((st.lc d).1 + 1, .cells false z.cells)) st.hp
    show RelR keeps (kk (putV (applyL st (some (d, (st.lc d).1 + 1, .cells false z.cells))) o.dst _)) (j _ (F.putR _ (path d) st.loc) st.hp)
    rw [F.putR_eq]
    exact this
theorem st_ok {t : TypeId} {a x : Operand} (h : o.op = .store t a x) (hI : ∀ t ∈ tmpsOf o, aget .dead st.tm t = lkT env tm t) {kk : G.K} {j : V → Lo → Hp → R}
  (hj : ∀ v l h, RelR keeps (kk (putV { st with loc := l, hp := h } o.dst v)) (j v l h)) :
  RelR keeps (next (oneV P C call gl st o) kk) (G.onPtr (lk env tm a) (fun r off => G.onRef r (fun s g => stL P t s g off (lk env tm x) st.loc (fun loc => j (.tuple []) loc st.hp))
   (fun _ => gen P C call gl o (lay env tm (tmpsOf o)) tm st.loc st.hp j)) (fun _ => none) none) := by
 have ha : AM.opd st.ρ a = lk env tm a := lk_ok hI (by simp [h, Op.operands])
 have hx : AM.opd st.ρ x = lk env tm x := lk_ok hI (by simp [h, Op.operands])
 cases hv : lk env tm a with
 | ptr r off =>
  rw [hv] at ha
  cases r with
  | glob r => exact gen_ok hI hj
  | loc s g =>
   have hg : stepG P C gl st o = none := by simp only [stepG, h, ha]
   show RelR keeps _ (stL P t s g off (lk env tm x) st.loc (fun loc => j (.tuple []) loc st.hp))
   unfold stL
   rw [lc_get, ← hx, F.e_lenIs, F.e_setAt]
   simp only [F.allR_eq, F.lenR_eq]
   cases hr : st.lc s with
   | mk g' row =>
    cases row with
    | cells frz cs =>
     cases frz with
     | true =>
      have hl : locV P C gl st.ρ st.lc o = none := by simp only [locV, h, ha, hr]
      simp only [oneV, stepV, hl, hg]; trivial
     | false =>
      show RelR keeps _ (bif Nat.beq g g' && (AM.opd st.ρ x).cells.all V.cellOk && lenIs P t (AM.opd st.ρ x).cells.length then
       G.onSome (setAt cs off (AM.opd st.ρ x).cells) (fun cs' => j (.tuple []) (F.putR (g, .cells false cs') (path s) st.loc) st.hp) none else none)
      cases hb : (Nat.beq g g' && (AM.opd st.ρ x).cells.all V.cellOk && lenIs P t (AM.opd st.ρ x).cells.length) with
      | false =>
       have hl : locV P C gl st.ρ st.lc o = none := by simp only [locV, h, ha, hr, hb, cond_false]
       simp only [oneV, stepV, hl, hg]; trivial
      | true =>
       simp only [cond_true]
       cases hs : setAt cs off (AM.opd st.ρ x).cells with
       | none =>
        have hl : locV P C gl st.ρ st.lc o = none := by simp only [locV, h, ha, hr, hb, cond_true, hs]
        simp only [oneV, stepV, hl, hg]; trivial
       | some cs' =>
        have hl : locV P C gl st.ρ st.lc o = some (.tuple [], some (s, g, .cells false cs')) := by simp only [locV, h, ha, hr, hb, cond_true, hs]
        simp only [oneV, stepV, hl]
        have := hj (.tuple []) (aset st.loc s (g, .cells false cs')) st.hp
        show RelR keeps (kk (putV (applyL st (some (s, g, .cells false cs'))) o.dst _)) (j _ (F.putR _ (path s) st.loc) st.hp)
        rw [F.putR_eq]
        exact this
    | _ =>
     have hl : locV P C gl st.ρ st.lc o = none := by simp only [locV, h, ha, hr]
     simp only [oneV, stepV, hl, hg]; trivial
 | _ =>
  rw [hv] at ha
  have hl : locV P C gl st.ρ st.lc o = none := by simp only [locV, h, ha]
  have hg : stepG P C gl st o = none := by simp only [stepG, h, ha]
  simp only [oneV, stepV, hl, hg]; trivial
theorem cl_ok {c : Call} {f : FuncId} (h : o.op = .call c) (hc : c.callee = .value (.func f)) (hI : ∀ t ∈ tmpsOf o, aget .dead st.tm t = lkT env tm t) {kk : G.K} {j : V → Lo → Hp → R}
  (hj : ∀ v l h, RelR keeps (kk (putV { st with loc := l, hp := h } o.dst v)) (j v l h)) :
  RelR keeps (next (oneV P C call gl st o) kk) (cl call f (c.args.toList.map (lk env tm)) tm st.loc st.hp j) := by
 have ha : opds st.ρ c.args.toList = c.args.toList.map (lk env tm) := List.map_congr_left (fun x hx => lk_ok hI (by simp [h, Op.operands, Call.operands, hx]))
 have hl : locV P C gl st.ρ st.lc o = none := by simp only [locV, h, pureV, hc]; rfl
 have he := exps_as (T := .lf) false (c.args.toList.map (lk env tm)) st
 have e : st.as .lf = ⟨.lf, st.loc, st.hp⟩ := rfl
 unfold cl
 rw [F.e_exps, ← e, he]
 simp only [oneV, stepV, hl, stepG, h, callS, hc, AM.opd, List.nil_append, List.append_nil, ha]
 have ht := exps_as (T := st.tm) false (c.args.toList.map (lk env tm)) st
 have e2 : st.as st.tm = st := rfl
 rw [e2] at ht
 cases hx : exps false st (c.args.toList.map (lk env tm)) with
 | none => trivial
 | some p =>
  obtain ⟨l, s⟩ := p
  rw [hx] at ht
  simp only [Option.map_some, Option.some.injEq, asV, Prod.mk.injEq, true_and] at ht
  show RelR keeps (next (match call f l s.hp with | some (.val v h) => some (.normal, putV { s with hp := h } o.dst v) | some (.panic v h) => some (.panic v, { s with hp := h }) | none => none) kk)
   (backO (call f l s.hp) s.loc tm (fun v h => j v s.loc h))
  cases call f l s.hp with
  | none => trivial
  | some out =>
   cases out with
   | val v h2 =>
    have := hj v s.loc h2
    have e3 : ({ st with loc := s.loc, hp := h2 } : St) = { s with hp := h2 } := by
     conv => rhs; rw [ht]
     rfl
    rw [e3] at this
    exact this
   | panic v h2 => exact ⟨rfl, rfl, rfl, .inl ⟨v, rfl⟩⟩
end
end Go.AM.S
end

section
namespace Go.AM.S
open Go Go.AM
open _root_.Go.AM.G (R next next_next next_done okO_eq opd_eq onSome_eq oneV_pure)
section
variable {P : Program} {C : Cfg} {call : CallF} {gl : Nat → Bool} {o : Oper} {st : St} {env : List (Nat × V)} {tm : Tm} {keeps : List Nat}
theorem callee_spec (c : Call) : (∃ f, c.callee = .value (.func f) ∧ G.callee c = (1, f)) ∨ (∃ x, c.callee = .builtin .len ∧ c.args.toList = [x] ∧ G.callee c = (2, 0)) ∨ G.callee c = (0, 0) := by
 unfold G.callee
 split
 ·rename_i hc; exact .inl ⟨_, hc, rfl⟩
 ·rename_i hc ha; exact .inr (.inl ⟨_, hc, ha, rfl⟩)
 ·exact .inr (.inr rfl)
theorem mmOf_spec (c : Call) : (∃ x y, c.callee = .builtin .min ∧ c.args.toList = [x, y] ∧ mmOf c = 1) ∨ (∃ x y, c.callee = .builtin .max ∧ c.args.toList = [x, y] ∧ mmOf c = 2) ∨ mmOf c = 0 := by
 unfold mmOf
 split
 ·rename_i hc ha; exact .inl ⟨_, _, hc, ha, rfl⟩
 ·rename_i hc ha; exact .inr (.inl ⟨_, _, hc, ha, rfl⟩)
 ·exact .inr (.inr rfl)
theorem mnV_eq (x y : V) : mnV x y = match x, y with | .int k a, .int _ b => some (.int k (if b < a then b else a)) | _, _ => none := by
 cases x with
 | int k a =>
  cases y with
  | int k' b =>
   show some (V.int k (Bool.rec (motive := fun _ => Int) a b (F.ltI b a))) = _
   rw [F.ltI_eq]
   by_cases h : b < a <;> simp [h]
  | _ => rfl
 | _ => cases y <;> rfl
theorem mxV_eq (x y : V) : mxV x y = match x, y with | .int k a, .int _ b => some (.int k (if b > a then b else a)) | _, _ => none := by
 cases x with
 | int k a =>
  cases y with
  | int k' b =>
   show some (V.int k (Bool.rec (motive := fun _ => Int) a b (F.ltI a b))) = _
   rw [F.ltI_eq]
   by_cases h : a < b <;> simp [h]
  | _ => rfl
 | _ => cases y <;> rfl
theorem mm_eq {c : Call} {x y : Operand} {kk : G.K} {f : V → V → Option V} (h : o.op = .call c) (hc : (c.callee = .builtin .min ∧ f = mnV) ∨ (c.callee = .builtin .max ∧ f = mxV)) (ha : c.args.toList = [x, y]) :
  next (oneV P C call gl st o) kk = next ((f (AM.opd st.ρ x) (AM.opd st.ρ y)).map fun v => (Ex.normal, putV st o.dst v)) kk := by
 have hg : stepG P C gl st o = none := by
  rcases hc with ⟨hc, _⟩ | ⟨hc, _⟩ <;>
  ·simp only [stepG, h, callS, hc]
   cases c.argTypes[0]? with
   | none => rfl
   | some t => cases o.dst <;> rfl
 have hp : pureV P C st.ρ (.call c) = f (AM.opd st.ρ x) (AM.opd st.ρ y) := by
  rcases hc with ⟨hc, rfl⟩ | ⟨hc, rfl⟩
  ·rw [mnV_eq]; simp only [pureV, hc, ha]; rfl
  ·rw [mxV_eq]; simp only [pureV, hc, ha]; rfl
 rw [oneV_pure (v := f (AM.opd st.ρ x) (AM.opd st.ρ y)) (by simp only [locV, h, hp]) (fun _ => hg)]
theorem stp_ok (hI : ∀ t ∈ tmpsOf o, aget .dead st.tm t = lkT env tm t) {kk : G.K} {j : V → Lo → Hp → R}
  (hj : ∀ v l h, RelR keeps (kk (putV { st with loc := l, hp := h } o.dst v)) (j v l h)) :
  RelR keeps (next (oneV P C call gl st o) kk) (stp P C call gl o env tm st.loc st.hp j) := by
 unfold stp
 cases ho : o.op with
 | move x =>
  have hx : AM.opd st.ρ x = lk env tm x := lk_ok hI (by simp [ho, Op.operands])
  rw [← G.one_move ho]
  show RelR keeps (G.ok o.dst st (G.opd x st) kk) _
  rw [G.ok_eq, opd_eq, hx]
  exact hj _ st.loc st.hp
 | assign x =>
  have hx : AM.opd st.ρ x = lk env tm x := lk_ok hI (by simp [ho, Op.operands])
  rw [← G.one_assign ho]
  show RelR keeps (G.ok o.dst st (G.opd x st) kk) _
  rw [G.ok_eq, opd_eq, hx]
  exact hj _ st.loc st.hp
 | pick c a b =>
  have h1 := gopd_ok hI (x := c) (by simp [ho, Op.operands])
  have h2 := gopd_ok hI (x := a) (by simp [ho, Op.operands])
  have h3 := gopd_ok hI (x := b) (by simp [ho, Op.operands])
  exact rel_val (by rw [← G.one_pick ho, pick_eq, h1, h2, h3, okO_val]) hj
 | nilCheck x =>
  have h1 := lk_ok hI (x := x) (by simp [ho, Op.operands])
  exact rel_val (by rw [nil_eq ho, h1]) hj
 | binOp op t x y u =>
  have h1 := lk_ok hI (x := x) (by simp [ho, Op.operands])
  have h2 := lk_ok hI (x := y) (by simp [ho, Op.operands])
  exact rel_val (by
   rw [← G.one_bin ho]
   show G.okO o.dst st (G.bin P op t x y (G.opd x st) (G.opd y st)) kk = _
   rw [okO_eq, opd_eq, opd_eq, h1, h2]; rfl) hj
 | unOp op t x =>
  have h1 := gopd_ok hI (x := x) (by simp [ho, Op.operands])
  exact rel_val (by
   rw [← G.one_un ho]
   show G.okO o.dst st (G.un op (G.opd x st)) kk = _
   rw [okO_eq, h1]) hj
 | extract x i =>
  have h1 := gopd_ok hI (x := x) (by simp [ho, Op.operands])
  exact rel_val (by rw [← G.one_extract ho, ext_eq, h1, okO_val]) hj
 | fieldAddr t x i =>
  have h1 := gopd_ok hI (x := x) (by simp [ho, Op.operands])
  exact rel_val (by rw [← G.one_fieldAddr ho, fa_eq, h1, okO_val]) hj
 | field t x i =>
  have h1 := gopd_ok hI (x := x) (by simp [ho, Op.operands])
  exact rel_val (by rw [← G.one_field ho, fld_eq, h1, okO_val]) hj
 | indexAddr t x i =>
  have h1 := gopd_ok hI (x := x) (by simp [ho, Op.operands])
  have h2 := gopd_ok hI (x := i) (by simp [ho, Op.operands])
  exact rel_val (by rw [← G.one_indexAddr ho, ia_eq, h1, h2, okO_val]) hj
 | index t x i =>
  have h1 := gopd_ok hI (x := x) (by simp [ho, Op.operands])
  have h2 := gopd_ok hI (x := i) (by simp [ho, Op.operands])
  exact rel_val (by rw [← G.one_index ho, idx_eq, h1, h2, okO_val]) hj
 | load t x =>
  have h1 := gopd_ok hI (x := x) (by simp [ho, Op.operands])
  exact rel_val (by rw [← G.one_load ho, ld_eq, h1, okO_val]) hj
 | slice t x lo hi mx =>
  have h1 := lk_ok hI (x := x) (by simp [ho, Op.operands])
  have h2 : lo.map (AM.opd st.ρ) = lo.map (lk env tm) := by
   cases lo with
   | none => rfl
   | some y => exact congrArg some (lk_ok hI (x := y) (by simp [ho, Op.operands]))
  have h3 : hi.map (AM.opd st.ρ) = hi.map (lk env tm) := by
   cases hi with
   | none => rfl
   | some y => exact congrArg some (lk_ok hI (x := y) (by simp [ho, Op.operands]))
  have h4 : mx.map (AM.opd st.ρ) = mx.map (lk env tm) := by
   cases mx with
   | none => rfl
   | some y => exact congrArg some (lk_ok hI (x := y) (by simp [ho, Op.operands]))
  exact rel_val (by rw [slc_eq ho, h1, h2, h3, h4]) hj
 | buildSlice t n ps =>
  simp only []
  cases hA : C.isArr t with
  | true => exact gen_ok hI hj
  | false =>
   have h1 : (ps.toList.map fun p => (p.1, AM.opd st.ρ p.2)) = ps.toList.map fun p => (p.1, lk env tm p.2) :=
    List.map_congr_left (fun p hp => by rw [lk_ok hI (x := p.2) (by simp only [ho, Op.operands]; simp; exact ⟨p.1, by simpa using hp⟩)])
   exact rel_val (by rw [bs_eq ho hA, h1]) hj
 | alloc t =>
  simp only []
  cases hd : o.dst with
  | none => exact gen_ok hI hj
  | some d =>
   cases hg : gl d with
   | true => simp only [hg]; exact gen_ok hI hj
   | false =>
    simp only [hg]
    exact al_ok ho hd hg hj
 | store t a x => exact st_ok ho hI hj
 | call c =>
  simp only []
  rcases callee_spec c with ⟨f, hc, he⟩ | ⟨x, hc, ha, he⟩ | he
  ·rw [he]; exact cl_ok ho hc hI hj
  ·rw [he]
   simp only [ha]
   cases hat : c.argTypes[0]? with
   | none =>
    have hp : pureV P C st.ρ (.call c) = none := by simp only [pureV, hc, ha, hat]
    have hl : locV P C gl st.ρ st.lc o = none := by simp only [locV, ho, hp]; rfl
    have hg : stepG P C gl st o = none := by simp only [stepG, ho, callS, hc, hat]
    simp only [oneV, stepV, hl, hg]; trivial
   | some t =>
    simp only []
    have h1 : AM.opd st.ρ x = lk env tm x := lk_ok hI (by simp [ho, Op.operands, Call.operands, hc, ha])
    have hp : pureV P C st.ρ (.call c) = G.lenV (P.underlying t) (AM.opd st.ρ x) := by
     simp only [pureV, hc, ha, hat]
     unfold G.lenV
     cases AM.opd st.ρ x <;> (cases P.underlying t with | none => rfl | some d => cases d <;> rfl)
    have hg : stepG P C gl st o = none := by
     simp only [stepG, ho, callS, hc, hat]
     cases o.dst <;> (split <;> simp_all)
    exact rel_val (by
     rw [oneV_pure (v := G.lenV (P.underlying t) (AM.opd st.ρ x)) (by simp only [locV, ho, hp]) (fun _ => hg), len_eq, h1]) hj
  ·rw [he]
   simp only []
   rcases mmOf_spec c with ⟨x, y, hc, ha, hm⟩ | ⟨x, y, hc, ha, hm⟩ | hm
   ·rw [hm]
    simp only [ha]
    have h1 := lk_ok hI (x := x) (by simp [ho, Op.operands, Call.operands, hc, ha])
    have h2 := lk_ok hI (x := y) (by simp [ho, Op.operands, Call.operands, hc, ha])
    exact rel_val (by rw [mm_eq ho (.inl ⟨hc, rfl⟩) ha, h1, h2]) hj
   ·rw [hm]
    simp only [ha]
    have h1 := lk_ok hI (x := x) (by simp [ho, Op.operands, Call.operands, hc, ha])
    have h2 := lk_ok hI (x := y) (by simp [ho, Op.operands, Call.operands, hc, ha])
    exact rel_val (by rw [mm_eq ho (.inr ⟨hc, rfl⟩) ha, h1, h2]) hj
   ·rw [hm]; exact gen_ok hI hj
 | _ => exact gen_ok hI hj
def guardOk (all : Array Oper) (D : List Nat) (o : Oper) : Bool := match o.guard with
 | none => true
 | some (i, _) => match (all[i]?).bind (·.dst) with
  | none => true
  | some d => D.contains d
def psd (d : Option Nat) (D : List Nat) : List Nat := match d with
 | none => D
 | some d => d :: D
def useOk (all : Array Oper) : List Oper → List Nat → Bool
 | [], _ => true
 | o :: l, D => (tmpsOf o).all (D.contains ·) && guardOk all D o && useOk all l (psd o.dst D)
theorem lkT_cons (env : List (Nat × V)) (d : Nat) (v : V) (t : Nat) : lkT ((d, v) :: env) tm t = if d = t then v else lkT env tm t := by
 show (bif Nat.beq d t then v else lkT env tm t) = _
 by_cases h : d = t
 ·subst h; simp
 ·have : Nat.beq d t = false := by
   cases hb : Nat.beq d t with
   | false => rfl
   | true => exact absurd (Nat.eq_of_beq_eq_true hb) h
  rw [this]; simp [h]
theorem flush_get : ∀ (env : List (Nat × V)) (seen : List Nat) (t : Nat), t ∈ keeps → t ∉ seen → aget .dead (flush keeps tm env seen) t = lkT env tm t
 | [], seen, t, hk, hs => by rw [flush]; exact (gt_eq tm t).symm
 | (d, v) :: env, seen, t, hk, hs => by
  rw [lkT_cons, flush]
  by_cases e : d = t
  ·subst e
   have h1 : (keeps.contains d && !seen.contains d) = true := by simp [hk, hs]
   rw [h1]
   simp only [cond_true, if_true]
   rw [pt_eq, aget_aset]; simp
  ·rw [if_neg e]
   cases hb : (keeps.contains d && !seen.contains d) with
   | true =>
    simp only [cond_true]
    rw [pt_eq, aget_aset, if_neg e]
    exact flush_get env (d :: seen) t hk (by simp; exact ⟨fun h => e h.symm, hs⟩)
   | false => exact flush_get env seen t hk hs
theorem psd_ok {D : List Nat} (h : ∀ t ∈ D, aget .dead st.tm t = lkT env tm t) (l : Lo) (hh : Hp) (d : Option Nat) (v : V) :
  ∀ t ∈ psd d D, aget .dead (putV { st with loc := l, hp := hh } d v).tm t = lkT (psh d v env) tm t := by
 cases d with
 | none => exact h
 | some d =>
  intro t ht
  show aget .dead (aset st.tm d v) t = lkT ((d, v) :: env) tm t
  rw [aget_aset, lkT_cons]
  by_cases e : d = t
  ·simp [e]
  ·rw [if_neg e, if_neg e]
   refine h t ?_
   rcases List.mem_cons.1 ht with e2 | e2
   ·exact absurd e2.symm e
   ·exact e2
theorem put_loc (s : St) (d : Option Nat) (v : V) : (putV s d v).loc = s.loc ∧ (putV s d v).hp = s.hp := by cases d <;> exact ⟨rfl, rfl⟩
theorem comp_ok (all : Array Oper) : ∀ (ops : List Oper) (env : List (Nat × V)) (D : List Nat) (st : St) (k : G.K) (k' : K), useOk all ops D = true → (∀ t ∈ D, aget .dead st.tm t = lkT env tm t) → (∀ t ∈ keeps, t ∈ D) →
  (∀ st' T', Ag keeps st'.tm T' → RelR keeps (k st') (k' T' st'.loc st'.hp)) → RelR keeps (next (opsV P C call gl all ops st) k) (comp P C call gl all keeps ops env tm st.loc st.hp k')
 | [], env, D, st, k, k', hu, hD, hk, hc => by
  show RelR keeps (k st) (k' (flush keeps tm env []) st.loc st.hp)
  exact hc st _ (fun t ht => by rw [flush_get env [] t ht (by simp)]; exact hD t (hk t ht))
 | o :: l, env, D, st, k, k', hu, hD, hk, hc => by
  simp only [useOk, Bool.and_eq_true] at hu
  obtain ⟨⟨hu1, hu2⟩, hu3⟩ := hu
  have hI : ∀ t ∈ tmpsOf o, aget .dead st.tm t = lkT env tm t := fun t ht => hD t (by simpa using List.all_eq_true.1 hu1 t ht)
  have hj : ∀ v lo h, RelR keeps (next (opsV P C call gl all l (putV { st with loc := lo, hp := h } o.dst v)) k) (comp P C call gl all keeps l (psh o.dst v env) tm lo h k') := by
   intro v lo h
   have := comp_ok all l (psh o.dst v env) (psd o.dst D) (putV { st with loc := lo, hp := h } o.dst v) k k' hu3 (psd_ok hD lo h o.dst v)
    (fun t ht => by cases o.dst with | none => exact hk t ht | some d => exact List.mem_cons_of_mem _ (hk t ht)) hc
   rw [(put_loc _ _ _).1, (put_loc _ _ _).2] at this
   exact this
  have hone := stp_ok (P := P) (C := C) (call := call) (gl := gl) (keeps := keeps) (kk := fun s => next (opsV P C call gl all l s) k) (j := fun v lo h => comp P C call gl all keeps l (psh o.dst v env) tm lo h k') hI hj
  rw [G.opsV_next]
  cases hg : o.guard with
  | none =>
   have hw : wantedV all o st.ρ = some true := by simp only [wantedV, hg]
   rw [hw]
   simp only [next_next]
   rw [comp]
   simp only [hg]
   exact hone
  | some q =>
   obtain ⟨i, w⟩ := q
   rw [comp]
   simp only [hg]
   cases hd : (all[i]?).bind (·.dst) with
   | none =>
    have hw : wantedV all o st.ρ = none := by simp only [wantedV, hg, hd]
    rw [hw]; trivial
   | some d =>
    have hdD : d ∈ D := by
     have : guardOk all D o = D.contains d := by simp only [guardOk, hg, hd]
     rw [this] at hu2; simpa using hu2
    have hw : wantedV all o st.ρ = wv (lkT env tm d) w := by
     rw [← hD d hdD]
     simp only [wantedV, hg, hd]
     rfl
    rw [hw]
    simp only [jn, brB]
    cases wv (lkT env tm d) w with
    | none => trivial
    | some b =>
     cases b with
     | false => exact hj (.tuple []) st.loc st.hp
     | true => simp only [next_next]; exact hone
end
end Go.AM.S
end

section
namespace Go.AM.S
open Go Go.AM
open _root_.Go.AM.G (R next next_next next_done okO_eq opd_eq onSome_eq oneV_pure)
section
variable {P : Program} {C : Cfg} {call : CallF} {gl : Nat → Bool} {keeps : List Nat}
theorem mild_foot {o : Oper} (h : mild o = true) {st st' : St} {ex : Ex} (hr : oneV P C call gl st o = some (ex, st')) : ex = .normal ∧ ∃ ft, footV P C gl st.ρ st.lc o = some ft := by
 cases hl : locV P C gl st.ρ st.lc o with
 | some p =>
  obtain ⟨v, u⟩ := p
  simp only [oneV, stepV, hl] at hr
  simp at hr
  refine ⟨hr.1.symm, ?_⟩
  unfold footV
  rw [hl]
  cases u with
  | none =>
   simp only []
   split
   ·split <;> exact ⟨_, rfl⟩
   ·exact ⟨_, rfl⟩
  | some q => exact ⟨_, rfl⟩
 | none =>
  cases ho : o.op with
  | load t x =>
   cases hs : stepG P C gl st o with
   | none => simp only [oneV, stepV, hl, hs] at hr; simp at hr
   | some r =>
    have hs0 := hs
    simp only [stepG, ho] at hs
    split at hs
    ·rename_i r off hx
     split at hs
     ·cases hp : partV P t _ off with
      | none => rw [hp] at hs; simp at hs
      | some v =>
       rw [hp] at hs
       simp at hs
       subst hs
       simp only [oneV, stepV, hl, hs0] at hr
       simp at hr
       refine ⟨hr.1.symm, ⟨[], [], true, false, true, false⟩, ?_⟩
       unfold footV; rw [hl]; simp only [ho, hx]
     ·simp at hs
    ·simp at hs
  | call c =>
   exfalso
   have : stepG P C gl st o = none := by
    unfold mild at h
    rw [ho] at h
    simp only [] at h
    rcases callee_spec c with ⟨f, hc, he⟩ | ⟨x, hc, ha, he⟩ | he
    ·rw [he] at h
     have hm : mmOf c = 0 := by unfold mmOf; rw [hc]
     rw [hm] at h; simp at h
    ·simp only [stepG, ho, callS, hc]
     cases c.argTypes[0]? with
     | none => rfl
     | some t => cases o.dst <;> rfl
    ·rw [he] at h
     rcases mmOf_spec c with ⟨x, y, hc, ha, hm⟩ | ⟨x, y, hc, ha, hm⟩ | hm
     ·simp only [stepG, ho, callS, hc]
      cases c.argTypes[0]? with
      | none => rfl
      | some t => cases o.dst <;> rfl
     ·simp only [stepG, ho, callS, hc]
      cases c.argTypes[0]? with
      | none => rfl
      | some t => cases o.dst <;> rfl
     ·rw [hm] at h; simp at h
   simp only [oneV, stepV, hl, this] at hr
   simp at hr
  | _ =>
   exfalso
   have : stepG P C gl st o = none := by
    unfold mild at h
    rw [ho] at h
    first
    | (simp at h; done)
    | simp only [stepG, ho]
   simp only [oneV, stepV, hl, this] at hr
   simp at hr
theorem draw_mild (all : Array Oper) : ∀ (l : List Oper) (k : Nat) (st : St), l.all mild = true →
  (drawOps P C call gl all l k none st = none ∧ opsV P C call gl all l st = none) ∨ ∃ fs st', drawOps P C call gl all l k none st = some (fs, st', none) ∧ opsV P C call gl all l st = some (.normal, st')
 | [], k, st, _ => .inr ⟨[], st, rfl, rfl⟩
 | o :: l, k, st, h => by
  simp only [List.all_cons, Bool.and_eq_true] at h
  simp only [drawOps, opsV, behind, cond_false]
  cases wantedV all o st.ρ with
  | none => exact .inl ⟨rfl, rfl⟩
  | some b =>
   cases b with
   | false =>
    simp only []
    rcases draw_mild all l (k + 1) (putV st o.dst (.tuple [])) h.2 with ⟨h1, h2⟩ | ⟨fs, s, h1, h2⟩
    ·rw [h1, h2]; exact .inl ⟨rfl, rfl⟩
    ·rw [h1, h2]; exact .inr ⟨_, s, rfl, rfl⟩
   | true =>
    simp only []
    cases hone : oneV P C call gl st o with
    | none => left; constructor <;> (cases footV P C gl st.ρ st.lc o <;> rfl)
    | some p =>
     obtain ⟨ex, s⟩ := p
     obtain ⟨rfl, ft, hft⟩ := mild_foot h.1 hone
     rw [hft]
     simp only []
     rcases draw_mild all l (k + 1) s h.2 with ⟨h1, h2⟩ | ⟨fs, s', h1, h2⟩
     ·rw [h1, h2]; exact .inl ⟨rfl, rfl⟩
     ·rw [h1, h2]; exact .inr ⟨_, s', rfl, rfl⟩
theorem region_mild {f id : Nat} {ops : Array Oper} (h : mildR C f id ops = true) (st : St) : regionV P C call f id ops true st = opsV P C call (C.glob f) ops ops.toList st := by
 unfold mildR at h
 simp only [Bool.and_eq_true] at h
 obtain ⟨⟨h1, h2⟩, h3⟩ := h
 have e2 : C.pairs f id = [] := by simpa using h2
 have e3 : C.pairsH f id = [] := by simpa using h3
 unfold regionV
 simp only []
 rcases draw_mild (P := P) (C := C) (call := call) (gl := C.glob f) ops ops.toList 0 st h1 with ⟨k1, k2⟩ | ⟨fs, s, k1, k2⟩
 ·rw [k1, k2]
 ·rw [k1, k2, e2, e3]
  simp [pairsOk, endV]
theorem foot_congr {ρ σ : Nat → V} {lc : Nat → Nat × Row} {o : Oper} (h : Agree ρ σ o) : footV P C gl ρ lc o = footV P C gl σ lc o := by
 have hl := locV_congr' (P := P) (C := C) (gl := gl) (lc := lc) h
 unfold Agree at h
 unfold footV
 rw [hl]
 cases ho : o.op with
 | load t x => simp only [ho, Op.operands] at h; simp only [h x (by simp)]
 | store t a x => simp only [ho, Op.operands] at h; simp only [h a (by simp), h x (by simp)]
 | box t x => simp only [ho, Op.operands] at h; simp only [h x (by simp)]
 | convert s t x => simp only [ho, Op.operands] at h; simp only [h x (by simp)]
 | mapUpdate t m k x => simp only [ho, Op.operands] at h; simp only [h x (by simp)]
 | insert t m k x => simp only [ho, Op.operands] at h; simp only [h x (by simp)]
 | call c =>
  simp only [ho, Op.operands, Call.operands] at h
  have ha : opds ρ c.args.toList = opds σ c.args.toList := opds_congr (fun x hx => h x (by simp [hx]))
  have hap : appFoot gl ρ o.dst c = appFoot gl σ o.dst c := by
   unfold appFoot
   split
   ·rename_i d x y hd hargs
    rw [h x (by simp [hargs]), h y (by simp [hargs])]
   ·rfl
  cases hc : c.callee with
  | value g => simp only [hc, h g (by simp [hc]), ha]
  | builtin b => cases b <;> simp only [hc, hap]
  | invoke a b => simp only [hc]
 | _ => rfl
theorem wanted_congr {all : Array Oper} {o : Oper} {D : List Nat} {ρ σ : Nat → V} (hg : guardOk all D o = true) (h : ∀ t ∈ D, ρ t = σ t) : wantedV all o ρ = wantedV all o σ := by
 unfold wantedV
 unfold guardOk at hg
 cases hq : o.guard with
 | none => rfl
 | some p =>
  obtain ⟨i, w⟩ := p
  rw [hq] at hg
  simp only [] at hg ⊢
  cases hd : (all[i]?).bind (·.dst) with
  | none => rfl
  | some d =>
   rw [hd] at hg
   simp only [] at hg ⊢
   rw [h d (by simpa using hg)]
theorem draw_two (all : Array Oper) : ∀ (l : List Oper) (D : List Nat) (k : Nat) (sp : Stop) (st st2 : St), useOk all l D = true → (∀ t ∈ D, aget .dead st.tm t = aget .dead st2.tm t) → st.loc = st2.loc → st.hp = st2.hp →
  (drawOps P C call gl all l k sp st = none ∧ drawOps P C call gl all l k sp st2 = none) ∨
  ∃ fs s s2 q, drawOps P C call gl all l k sp st = some (fs, s, q) ∧ drawOps P C call gl all l k sp st2 = some (fs, s2, q) ∧ s.loc = s2.loc ∧ s.hp = s2.hp ∧ ∀ t ∈ D, aget .dead s.tm t = aget .dead s2.tm t
 | [], D, k, sp, st, st2, _, hD, h1, h2 => .inr ⟨[], st, st2, sp, rfl, rfl, h1, h2, hD⟩
 | o :: l, D, k, sp, st, st2, hu, hD, h1, h2 => by
  simp only [useOk, Bool.and_eq_true] at hu
  obtain ⟨⟨hu1, hu2⟩, hu3⟩ := hu
  have hag : Agree st.ρ st2.ρ o := by
   intro x hx
   cases x with
   | tmp t =>
    have ht : t ∈ tmpsOf o := by unfold tmpsOf; rw [List.mem_filterMap]; exact ⟨.tmp t, hx, rfl⟩
    exact hD t (by simpa using List.all_eq_true.1 hu1 t ht)
   | _ => rfl
  have hst2 : st2 = st.as st2.tm := by
   cases st; cases st2
   simp at h1 h2
   subst h1; subst h2; rfl
  have hw : wantedV all o st.ρ = wantedV all o st2.ρ := wanted_congr hu2 hD
  have rest : ∀ (f : Foot) (q0 : Stop) (v : V) (lo : Lo) (hh : Hp), (consF f (drawOps P C call gl all l (k + 1) q0 (putV { st with loc := lo, hp := hh } o.dst v)) = none ∧ consF f (drawOps P C call gl all l (k + 1) q0 (putV { ({ st with loc := lo, hp := hh } : St) with tm := st2.tm } o.dst v)) = none) ∨
    ∃ fs s s2 q, consF f (drawOps P C call gl all l (k + 1) q0 (putV { st with loc := lo, hp := hh } o.dst v)) = some (fs, s, q) ∧ consF f (drawOps P C call gl all l (k + 1) q0 (putV { ({ st with loc := lo, hp := hh } : St) with tm := st2.tm } o.dst v)) = some (fs, s2, q) ∧ s.loc = s2.loc ∧ s.hp = s2.hp ∧ ∀ t ∈ D, aget .dead s.tm t = aget .dead s2.tm t := by
   intro f q0 v lo hh
   have hp1 := put_loc ({ st with loc := lo, hp := hh }) o.dst v
   have hp2 := put_loc ({ ({ st with loc := lo, hp := hh } : St) with tm := st2.tm }) o.dst v
   have hDD : ∀ t ∈ psd o.dst D, aget .dead (putV { st with loc := lo, hp := hh } o.dst v).tm t = aget .dead (putV { ({ st with loc := lo, hp := hh } : St) with tm := st2.tm } o.dst v).tm t := by
    cases o.dst with
    | none => exact hD
    | some d =>
     intro t ht
     show aget .dead (aset st.tm d v) t = aget .dead (aset st2.tm d v) t
     rw [aget_aset, aget_aset]
     by_cases e : d = t
     ·simp [e]
     ·rw [if_neg e, if_neg e]
      refine hD t ?_
      rcases List.mem_cons.1 ht with e2 | e2
      ·exact absurd e2.symm e
      ·exact e2
   rcases draw_two all l (psd o.dst D) (k + 1) q0 _ _ hu3 hDD (by rw [hp1.1, hp2.1]) (by rw [hp1.2, hp2.2]) with ⟨a1, a2⟩ | ⟨fs, s, s2, q, a1, a2, a3, a4, a5⟩
   ·rw [a1, a2]; exact .inl ⟨rfl, rfl⟩
   ·rw [a1, a2]; exact .inr ⟨_, s, s2, q, rfl, rfl, a3, a4, fun t ht => a5 t (by cases o.dst with | none => exact ht | some d => exact List.mem_cons_of_mem _ ht)⟩
  have skip : ∀ q0, (consF ⟨[], [], false, false, false, false⟩ (drawOps P C call gl all l (k + 1) q0 (putV st o.dst (.tuple []))) = none ∧ consF ⟨[], [], false, false, false, false⟩ (drawOps P C call gl all l (k + 1) q0 (putV st2 o.dst (.tuple []))) = none) ∨
    ∃ fs s s2 q, consF ⟨[], [], false, false, false, false⟩ (drawOps P C call gl all l (k + 1) q0 (putV st o.dst (.tuple []))) = some (fs, s, q) ∧ consF ⟨[], [], false, false, false, false⟩ (drawOps P C call gl all l (k + 1) q0 (putV st2 o.dst (.tuple []))) = some (fs, s2, q) ∧ s.loc = s2.loc ∧ s.hp = s2.hp ∧ ∀ t ∈ D, aget .dead s.tm t = aget .dead s2.tm t := by
   intro q0
   have e2 : putV st2 o.dst (.tuple []) = putV { ({ st with loc := st.loc, hp := st.hp } : St) with tm := st2.tm } o.dst (.tuple []) := by
    conv => lhs; rw [hst2]
    rfl
   rw [e2]
   exact rest _ q0 (.tuple []) st.loc st.hp
  have skipF : ∀ (f : Foot) q0, (consF f (drawOps P C call gl all l (k + 1) q0 (putV st o.dst (.tuple []))) = none ∧ consF f (drawOps P C call gl all l (k + 1) q0 (putV st2 o.dst (.tuple []))) = none) ∨
    ∃ fs s s2 q, consF f (drawOps P C call gl all l (k + 1) q0 (putV st o.dst (.tuple []))) = some (fs, s, q) ∧ consF f (drawOps P C call gl all l (k + 1) q0 (putV st2 o.dst (.tuple []))) = some (fs, s2, q) ∧ s.loc = s2.loc ∧ s.hp = s2.hp ∧ ∀ t ∈ D, aget .dead s.tm t = aget .dead s2.tm t := by
   intro f q0
   have e2 : putV st2 o.dst (.tuple []) = putV { ({ st with loc := st.loc, hp := st.hp } : St) with tm := st2.tm } o.dst (.tuple []) := by
    conv => lhs; rw [hst2]
    rfl
   rw [e2]
   exact rest f q0 (.tuple []) st.loc st.hp
  simp only [drawOps]
  cases hb : behind all.toList k sp with
  | true => exact skip sp
  | false =>
  simp only [cond_false]
  rw [← hw]
  cases wantedV all o st.ρ with
  | none => exact .inl ⟨rfl, rfl⟩
  | some b =>
   cases b with
   | false => exact skip sp
   | true =>
    simp only []
    have hf : footV P C gl st.ρ st.lc o = footV P C gl st2.ρ st2.lc o := by
     have : st.lc = st2.lc := by unfold St.lc; rw [h1]
     rw [← this]; exact foot_congr hag
    rw [← hf]
    have h2r := oneV_two (P := P) (C := C) (call := call) (gl := gl) st2.tm (o := o) (st := st) (by rw [← hst2]; exact hag)
    rw [← hst2] at h2r
    cases footV P C gl st.ρ st.lc o with
    | none => exact .inl ⟨rfl, rfl⟩
    | some ft =>
     generalize oneV P C call gl st o = r at h2r ⊢
     generalize oneV P C call gl st2 o = r' at h2r ⊢
     cases r with
     | none =>
      cases r' with
      | none => exact .inl ⟨rfl, rfl⟩
      | some p => exact h2r.elim
     | some p =>
      obtain ⟨ex, s⟩ := p
      cases r' with
      | none => cases ex <;> exact h2r.elim
      | some p' =>
       obtain ⟨ex', s'⟩ := p'
       cases ex with
       | normal =>
        cases ex' with
        | normal =>
         obtain ⟨v, lo, hh, e1, e2⟩ := h2r
         subst e1; subst e2
         simp only []
         have hp1 := put_loc ({ st with loc := lo, hp := hh }) o.dst v
         have hp2 := put_loc ({ ({ st with loc := lo, hp := hh } : St) with tm := st2.tm }) o.dst v
         rw [hp1.2, hp2.2, h2]
         exact rest _ sp v lo hh
        | _ => exact h2r.elim
       | panic v =>
        cases ex' with
        | panic v' =>
         simp only []
         cases sp with
         | some p => exact .inl ⟨rfl, rfl⟩
         | none =>
          simp only []
          cases hso : stopOp o with
          | false => exact .inl ⟨rfl, rfl⟩
          | true =>
           simp only [cond_true]
           obtain ⟨e1, _, e3⟩ := h2r
           subst e1
           rw [e3]
           exact skipF ft _
        | _ => exact h2r.elim
       | _ => exact h2r.elim
end
end Go.AM.S
end

section
namespace Go.AM.S
open Go Go.AM
open _root_.Go.AM.G (R next next_next next_done okO_eq opd_eq onSome_eq oneV_pure onSome)
section
variable {P : Program} {C : Cfg} {call : CallF} {gl : Nat → Bool} {o : Oper} {st : St} {env : List (Nat × V)} {tm : Tm} {keeps : List Nat}
theorem revA_eq : ∀ (l acc : List Foot), revA l acc = l.reverse ++ acc
 | [], acc => rfl
 | x :: l, acc => by
  show revA l (x :: acc) = _
  rw [revA_eq l]; simp
theorem layS_get (tm : Tm) : ∀ (env : List (Nat × V)) (t : Nat), aget .dead (layS env tm) t = lkT env tm t
 | [], t => (gt_eq tm t).symm
 | (d, v) :: env, t => by
  show aget .dead (pt (layS env tm) d v) t = _
  rw [pt_eq, aget_aset, lkT_cons, layS_get tm env t]
theorem settle_same (h : Hp) {ft : Foot} (hp : ft.hp = false) : settle h h ft = ft := by
 unfold settle
 simp only [Nat.beq_refl, Bool.and_self, cond_true]
 cases ft; simp at hp; subst hp; rfl
def estep (P : Program) (C : Cfg) (call : CallF) (gl : Nat → Bool) (st : St) (o : Oper) (KK : Foot → St → R) (X : V → Foot → Hp → R) : R := match footV P C gl st.ρ st.lc o, oneV P C call gl st o with
 | some ft, some (.normal, st') => KK (settle st.hp st'.hp ft) st'
 | some ft, some (.panic v, st') => bif stopOp o then X v ft st'.hp else none
 | _, _ => none
theorem one_of_stp (hI : ∀ t ∈ tmpsOf o, aget .dead st.tm t = lkT env tm t) {v : Option V} (hv : ∀ j, stp P C call gl o env tm st.loc st.hp j = bO v fun u => j u st.loc st.hp) :
  oneV P C call gl st o = v.map fun u => (Ex.normal, putV st o.dst u) := by
 have key := stp_ok (P := P) (C := C) (call := call) (gl := gl) (keeps := [0]) (kk := fun s => some (.normal, ⟨pt .lf 0 (gtO s.tm o.dst), s.loc, s.hp⟩)) (j := fun u l h => some (.normal, ⟨pt .lf 0 (gtO (putV st o.dst u).tm o.dst), l, h⟩)) hI
  (fun u l h => by
   refine ⟨rfl, (put_loc _ _ _).1, (put_loc _ _ _).2, .inr fun t ht => ?_⟩
   have : (putV { st with loc := l, hp := h } o.dst u).tm = (putV st o.dst u).tm := by cases o.dst <;> rfl
   rw [this])
 rw [hv] at key
 have htwo := oneV_two (P := P) (C := C) (call := call) (gl := gl) (o := o) (st := st) st.tm (fun x _ => rfl)
 have e2 : st.as st.tm = st := rfl
 rw [e2] at htwo
 generalize oneV P C call gl st o = r at key htwo ⊢
 cases v with
 | none =>
  cases r with
  | none => rfl
  | some p =>
   obtain ⟨ex, s⟩ := p
   cases ex <;> exact key.elim
 | some u =>
  cases r with
  | none => exact key.elim
  | some p =>
   obtain ⟨ex, s⟩ := p
   cases ex with
   | normal =>
    obtain ⟨u', l, h, h1, _⟩ := htwo
    obtain ⟨_, k1, k2, k3⟩ := key
    have k3 := k3.resolve_left (fun ⟨v, e⟩ => by simp at e)
    have k4 := k3 0 (by simp)
    have k1 : s.loc = st.loc := k1
    have k2 : s.hp = st.hp := k2
    rw [h1, (put_loc _ _ _).1] at k1
    rw [h1, (put_loc _ _ _).2] at k2
    have k1 : l = st.loc := k1
    have k2 : h = st.hp := k2
    subst k1; subst k2
    have k4 : aget V.dead (pt .lf 0 (gtO s.tm o.dst)) 0 = aget .dead (pt .lf 0 (gtO (putV st o.dst u).tm o.dst)) 0 := k4
    rw [pt_eq, pt_eq, aget_aset, aget_aset] at k4
    simp only [if_true] at k4
    rw [h1] at k4
    have e3 : s = putV st o.dst u := by
     rw [h1]
     cases hd : o.dst with
     | none => rfl
     | some i =>
      rw [hd] at k4
      have a1 := gtO_put st.tm st.loc st.hp (some i) u' i rfl
      have a2 := gtO_put st.tm st.loc st.hp (some i) u i rfl
      have k4 : gtO (putV { tm := st.tm, loc := st.loc, hp := st.hp } (some i) u').tm (some i) = gtO (putV { tm := st.tm, loc := st.loc, hp := st.hp } (some i) u).tm (some i) := k4
      rw [a1, a2] at k4
      subst k4; rfl
    rw [e3]; rfl
   | exit i => exact htwo.elim
   | ret => exact htwo.elim
   | panic v => have := key.1; simp at this
theorem estep_val {KK : Foot → St → R} {X : V → Foot → Hp → R} {j : JD} {v : Option V} {ft : Foot} (ho : oneV P C call gl st o = v.map fun u => (Ex.normal, putV st o.dst u)) (hf : v.isSome = true → footV P C gl st.ρ st.lc o = some ft) (hh : ft.hp = false)
  (hj : ∀ v l h, RelR keeps (KK ft (putV { st with loc := l, hp := h } o.dst v)) (j v ft l h)) : RelR keeps (estep P C call gl st o KK X) (bO v fun u => j u ft st.loc st.hp) := by
 unfold estep
 rw [ho]
 cases v with
 | none => cases footV P C gl st.ρ st.lc o <;> trivial
 | some u =>
  rw [hf rfl]
  show RelR keeps (KK (settle st.hp (putV st o.dst u).hp ft) (putV st o.dst u)) (j u ft st.loc st.hp)
  rw [(put_loc _ _ _).2, settle_same _ hh]
  exact hj u st.loc st.hp
theorem foot_mild {v : Option V} (ho : oneV P C call gl st o = v.map fun u => (Ex.normal, putV st o.dst u)) (hm : mild o = true) (hc : cls o.op = 0) : v.isSome = true → footV P C gl st.ρ st.lc o = some ft0 := by
 intro hs
 cases v with
 | none => simp at hs
 | some u =>
  obtain ⟨_, ft, hft⟩ := mild_foot hm ho
  rw [hft, (cls_foot hft).1 hc]; rfl
theorem clD_ok {c : Call} {f : FuncId} (h : o.op = .call c) (hc : c.callee = .value (.func f)) (hI : ∀ t ∈ tmpsOf o, aget .dead st.tm t = lkT env tm t) {KK : Foot → St → R} {X : V → Foot → Hp → R} {j : JD} {x : XD}
  (hj : ∀ v ft l h, RelR keeps (KK ft (putV { st with loc := l, hp := h } o.dst v)) (j v ft l h)) (hx : ∀ v ft h, RelR keeps (X v ft h) (x v ft h)) :
  RelR keeps (estep P C call gl st o KK X) (clD call f (c.args.toList.map (lk env tm)) st.loc st.hp j x) := by
 have ha : opds st.ρ c.args.toList = c.args.toList.map (lk env tm) := List.map_congr_left (fun x hx => lk_ok hI (by simp [h, Op.operands, Call.operands, hx]))
 have hl : locV P C gl st.ρ st.lc o = none := by simp only [locV, h, pureV, hc]; rfl
 have hs : stopOp o = true := by simp only [stopOp, h, hc]
 unfold clD estep
 rw [F.allR_eq, F.e_exps, F.e_settle]
 have hf : footV P C gl st.ρ st.lc o = (bif (c.args.toList.map (lk env tm)).all quiet then some ⟨[], [], true, true, false, false⟩ else none) := by
  unfold footV
  rw [hl]
  simp only [h, hc, AM.opd, ha]
  simp
 rw [hf]
 cases (c.args.toList.map (lk env tm)).all quiet with
 | false => trivial
 | true =>
  simp only [cond_true]
  have he := exps_as (T := .lf) false (c.args.toList.map (lk env tm)) st
  have e : st.as .lf = ⟨.lf, st.loc, st.hp⟩ := rfl
  rw [← e, he]
  simp only [oneV, stepV, hl, stepG, h, callS, hc, AM.opd, List.nil_append, List.append_nil, ha]
  have ht := exps_as (T := st.tm) false (c.args.toList.map (lk env tm)) st
  have e2 : st.as st.tm = st := rfl
  rw [e2] at ht
  cases hxp : exps false st (c.args.toList.map (lk env tm)) with
  | none => trivial
  | some p =>
   obtain ⟨l, s⟩ := p
   rw [hxp] at ht
   simp only [Option.map_some, Option.some.injEq, asV, Prod.mk.injEq, true_and] at ht
   show RelR keeps (match (some (⟨[], [], true, true, false, false⟩ : Foot)), (match call f l s.hp with | some (.val v h) => some (Ex.normal, putV { s with hp := h } o.dst v) | some (.panic v h) => some (.panic v, { s with hp := h }) | none => none) with
     | some ft, some (.normal, st') => KK (settle st.hp st'.hp ft) st'
     | some ft, some (.panic v, st') => bif stopOp o then X v ft st'.hp else none
     | _, _ => none)
    (onSome (call f l s.hp) (fun out => Out.rec (motive := fun _ => R) (fun v h => j v (settle st.hp h ⟨[], [], true, true, false, false⟩) s.loc h) (fun v h => x v ⟨[], [], true, true, false, false⟩ h) out) none)
   cases call f l s.hp with
   | none => trivial
   | some out =>
    cases out with
    | val v h2 =>
     have := hj v (settle st.hp h2 ⟨[], [], true, true, false, false⟩) s.loc h2
     have e3 : ({ st with loc := s.loc, hp := h2 } : St) = { s with hp := h2 } := by
      conv => rhs; rw [ht]
      rfl
     rw [e3] at this
     show RelR keeps (KK (settle st.hp (putV { s with hp := h2 } o.dst v).hp ⟨[], [], true, true, false, false⟩) _) _
     rw [(put_loc _ _ _).2]
     exact this
    | panic v h2 =>
     simp only [hs, cond_true]
     exact hx v _ h2
theorem genD_ok (hI : ∀ t ∈ tmpsOf o, aget .dead st.tm t = lkT env tm t) {KK : Foot → St → R} {X : V → Foot → Hp → R} {j : JD} {x : XD}
  (hj : ∀ v ft l h, RelR keeps (KK ft (putV { st with loc := l, hp := h } o.dst v)) (j v ft l h)) (hx : ∀ v ft h, RelR keeps (X v ft h) (x v ft h)) :
  RelR keeps (estep P C call gl st o KK X) (genD P C call gl o (lay env tm (tmpsOf o)) st.loc st.hp j x) := by
 have hag : Agree st.ρ (St.ρ (st.as (lay env tm (tmpsOf o)))) o := by
  intro x hx
  cases x with
  | tmp t =>
   have ht : t ∈ tmpsOf o := by unfold tmpsOf; rw [List.mem_filterMap]; exact ⟨.tmp t, hx, rfl⟩
   show aget .dead st.tm t = aget .dead (lay env tm (tmpsOf o)) t
   rw [hI t ht]
   exact (lay_in env tm (tmpsOf o) tm t ht).symm
  | _ => rfl
 have h2 := oneV_two (P := P) (C := C) (call := call) (gl := gl) (lay env tm (tmpsOf o)) hag
 have hf := foot_congr (P := P) (C := C) (gl := gl) (lc := st.lc) hag
 unfold genD estep
 rw [F.e_footV, F.e_oneV, F.e_rho, F.e_lcf, F.e_settle, F.e_stopOp]
 have e : st.as (lay env tm (tmpsOf o)) = ⟨lay env tm (tmpsOf o), st.loc, st.hp⟩ := rfl
 rw [e] at h2 hf
 have elc : St.lc ⟨lay env tm (tmpsOf o), st.loc, st.hp⟩ = st.lc := rfl
 rw [elc, ← hf]
 generalize footV P C gl st.ρ st.lc o = ff
 generalize oneV P C call gl st o = r at h2 ⊢
 generalize oneV P C call gl ⟨lay env tm (tmpsOf o), st.loc, st.hp⟩ o = r' at h2 ⊢
 cases ff with
 | none => trivial
 | some ft =>
 show RelR keeps _ (onSome r' (fun p => Ex.rec (motive := fun _ => R) (j (gtO p.2.tm o.dst) (settle st.hp p.2.hp ft) p.2.loc p.2.hp) (fun _ => none) none (fun v => bif stopOp o then x v ft p.2.hp else none) p.1) none)
 cases r with
 | none =>
  cases r' with
  | none => trivial
  | some p => exact h2.elim
 | some p =>
  obtain ⟨ex, s⟩ := p
  cases r' with
  | none => cases ex <;> exact h2.elim
  | some p' =>
   obtain ⟨ex', s'⟩ := p'
   cases ex with
   | normal =>
    cases ex' with
    | normal =>
     obtain ⟨v, l, h, h3, h4⟩ := h2
     subst h3; subst h4
     show RelR keeps (KK (settle st.hp (putV { st with loc := l, hp := h } o.dst v).hp ft) (putV { st with loc := l, hp := h } o.dst v)) (j (gtO (putV { tm := lay env tm (tmpsOf o), loc := l, hp := h } o.dst v).tm o.dst) (settle st.hp (putV { tm := lay env tm (tmpsOf o), loc := l, hp := h } o.dst v).hp ft) (putV { tm := lay env tm (tmpsOf o), loc := l, hp := h } o.dst v).loc (putV { tm := lay env tm (tmpsOf o), loc := l, hp := h } o.dst v).hp)
     rw [(put_loc _ _ _).2, (put_loc _ _ _).2, (put_loc _ _ _).1]
     cases hd : o.dst with
     | none => have := hj (.tuple []) (settle st.hp h ft) l h; rw [hd] at this; exact this
     | some i =>
      have e1 := gtO_put (lay env tm (tmpsOf o)) l h (some i) v i rfl
      rw [e1]
      have := hj v (settle st.hp h ft) l h
      rw [hd] at this
      exact this
    | _ => exact h2.elim
   | panic v =>
    cases ex' with
    | panic v' =>
     obtain ⟨rfl, h3, h4⟩ := h2
     show RelR keeps (bif stopOp o then X v ft s.hp else none) (bif stopOp o then x v ft s'.hp else none)
     rw [h4]
     cases stopOp o with
     | false => trivial
     | true => exact hx v ft s'.hp
    | _ => exact h2.elim
   | exit i => cases ex' <;> exact h2.elim
   | ret => cases ex' <;> exact h2.elim
theorem ld_foot {t : TypeId} {x : Operand} (h : o.op = .load t x) {v : Option V} (ho : oneV P C call gl st o = v.map fun u => (Ex.normal, putV st o.dst u)) : v.isSome = true → footV P C gl st.ρ st.lc o = some (ldF (AM.opd st.ρ x)) := by
 intro hs
 cases v with
 | none => simp at hs
 | some u =>
  obtain ⟨_, ft, hft⟩ := mild_foot (P := P) (C := C) (call := call) (gl := gl) (by simp only [mild, h]) ho
  rw [hft]
  unfold footV at hft
  simp only [h] at hft
  split at hft
  ·split at hft
   ·rename_i s g off hx
    simp at hft; subst hft; rw [hx]; rfl
   ·rename_i hn
    simp at hft
    subst hft
    rename_i hloc
    cases hx : AM.opd st.ρ x with
    | ptr r off =>
     cases r with
     | loc s g => exact absurd hx (hn s g off)
     | glob r => exfalso; rename_i hq; simp only [locV, h, hx] at hq; simp at hq
    | _ => rfl
  ·rename_i hloc
   exfalso
   simp only [locV, h] at hloc
   split at hloc
   ·split at hloc
    ·rename_i g' frz cs _
     generalize Nat.beq _ _ = b at hloc
     cases b with
     | false => simp at hloc
     | true =>
      simp only [cond_true, Option.map_eq_some_iff] at hloc
      obtain ⟨_, _, e⟩ := hloc
      simp at e
    ·simp at hloc
   ·simp only [Option.map_eq_some_iff] at hloc
    obtain ⟨_, _, e⟩ := hloc
    simp at e
   ·simp at hloc
  ·split at hft
   ·rename_i r off hx
    simp at hft; subst hft; rw [hx]; rfl
   ·simp at hft
theorem stpD_ok (hI : ∀ t ∈ tmpsOf o, aget .dead st.tm t = lkT env tm t) {KK : Foot → St → R} {X : V → Foot → Hp → R} {j : JD} {x : XD}
  (hj : ∀ v ft l h, RelR keeps (KK ft (putV { st with loc := l, hp := h } o.dst v)) (j v ft l h)) (hx : ∀ v ft h, RelR keeps (X v ft h) (x v ft h)) :
  RelR keeps (estep P C call gl st o KK X) (stpD P C call gl o env tm st.loc st.hp j x) := by
 have pure : ∀ v : Option V, mild o = true → cls o.op = 0 → (∀ j, stp P C call gl o env tm st.loc st.hp j = bO v fun u => j u st.loc st.hp) →
   RelR keeps (estep P C call gl st o KK X) (bO v fun u => j u ft0 st.loc st.hp) := fun v hm hc hv =>
  estep_val (one_of_stp hI hv) (foot_mild (one_of_stp hI hv) hm hc) rfl (fun v l h => hj v ft0 l h)
 unfold stpD
 cases ho : o.op with
 | move a =>
  have hs : ∀ j, stp P C call gl o env tm st.loc st.hp j = bO (some (lk env tm a)) fun u => j u st.loc st.hp := fun j => by unfold stp; simp only [ho]; rfl
  exact pure (some (lk env tm a)) (by simp only [mild, ho]) (by simp only [cls, ho]) hs
 | assign a =>
  have hs : ∀ j, stp P C call gl o env tm st.loc st.hp j = bO (some (lk env tm a)) fun u => j u st.loc st.hp := fun j => by unfold stp; simp only [ho]; rfl
  exact pure (some (lk env tm a)) (by simp only [mild, ho]) (by simp only [cls, ho]) hs
 | pick c a b => exact pure _ (by simp only [mild, ho]) (by simp only [cls, ho]) (fun j => by unfold stp; simp only [ho])
 | nilCheck a => exact pure _ (by simp only [mild, ho]) (by simp only [cls, ho]) (fun j => by unfold stp; simp only [ho])
 | binOp op t a b u => exact pure _ (by simp only [mild, ho]) (by simp only [cls, ho]) (fun j => by unfold stp; simp only [ho])
 | unOp op t a => exact pure _ (by simp only [mild, ho]) (by simp only [cls, ho]) (fun j => by unfold stp; simp only [ho])
 | extract a i => exact pure _ (by simp only [mild, ho]) (by simp only [cls, ho]) (fun j => by unfold stp; simp only [ho])
 | fieldAddr t a i => exact pure _ (by simp only [mild, ho]) (by simp only [cls, ho]) (fun j => by unfold stp; simp only [ho])
 | field t a i => exact pure _ (by simp only [mild, ho]) (by simp only [cls, ho]) (fun j => by unfold stp; simp only [ho])
 | indexAddr t a i => exact pure _ (by simp only [mild, ho]) (by simp only [cls, ho]) (fun j => by unfold stp; simp only [ho])
 | index t a i => exact pure _ (by simp only [mild, ho]) (by simp only [cls, ho]) (fun j => by unfold stp; simp only [ho])
 | slice t a lo hi mx => exact pure _ (by simp only [mild, ho]) (by simp only [cls, ho]) (fun j => by unfold stp; simp only [ho])
 | load t a =>
  have hs : ∀ j, stp P C call gl o env tm st.loc st.hp j = bO (ld P t (lk env tm a) st.loc st.hp) fun u => j u st.loc st.hp := fun j => by unfold stp; simp only [ho]
  have h1 : AM.opd st.ρ a = lk env tm a := lk_ok hI (by simp [ho, Op.operands])
  have h2 := ld_foot ho (one_of_stp hI hs)
  rw [h1] at h2
  refine estep_val (one_of_stp hI hs) h2 ?_ (fun v l h => hj v _ l h)
  unfold ldF
  cases lk env tm a with
  | ptr r off => cases r <;> rfl
  | _ => rfl
 | call c =>
  simp only []
  rcases callee_spec c with ⟨f, hc, he⟩ | ⟨a, hc, ha, he⟩ | he
  ·rw [he]; exact clD_ok ho hc hI hj hx
  ·rw [he]
   simp only [ha]
   cases hat : c.argTypes[0]? with
   | none =>
    have hs : ∀ j, stp P C call gl o env tm st.loc st.hp j = bO none fun u => j u st.loc st.hp := fun j => by unfold stp; simp only [ho, he, ha, hat]; rfl
    exact pure none (by unfold mild; simp only [ho, he]; rfl) (by simp only [cls, ho, hc]) hs
   | some t => exact pure _ (by unfold mild; simp only [ho, he]; rfl) (by simp only [cls, ho, hc]) (fun j => by unfold stp; simp only [ho, he, ha, hat])
  ·rw [he]
   simp only []
   rcases mmOf_spec c with ⟨a, b, hc, ha, hm⟩ | ⟨a, b, hc, ha, hm⟩ | hm
   ·rw [hm]
    simp only [ha]
    exact pure _ (by unfold mild; simp only [ho, hm]; exact Bool.or_eq_true_iff.mpr (Or.inr rfl)) (by simp only [cls, ho, hc]) (fun j => by unfold stp; simp only [ho, he, hm, ha])
   ·rw [hm]
    simp only [ha]
    exact pure _ (by unfold mild; simp only [ho, hm]; exact Bool.or_eq_true_iff.mpr (Or.inr rfl)) (by simp only [cls, ho, hc]) (fun j => by unfold stp; simp only [ho, he, hm, ha])
   ·rw [hm]; exact genD_ok hI hj hx
 | _ => exact genD_ok hI hj hx
def restE (P : Program) (C : Cfg) (call : CallF) (gl : Nat → Bool) (all : Array Oper) (P1 P2 : List (Nat × Nat)) (st0 : St) (l : List Oper) (k : Nat) (fs : List Foot) (st : St) (sp : Stop) : Option (Ex × St) :=
 match drawOps P C call gl all l k sp st with
 | some (gs, s, q) => endV P1 P2 all.toList st0 (fs.reverse ++ gs) s q
 | none => none
theorem restE_cons {all : Array Oper} {P1 P2 : List (Nat × Nat)} {st0 st : St} {l : List Oper} {k : Nat} {fs : List Foot} {sp : Stop} {f : Foot} :
  (match consF f (drawOps P C call gl all l k sp st) with
  | some (gs, s, q) => endV P1 P2 all.toList st0 (fs.reverse ++ gs) s q
  | none => none) = restE P C call gl all P1 P2 st0 l k (f :: fs) st sp := by
 unfold restE
 cases drawOps P C call gl all l k sp st with
 | none => rfl
 | some p =>
  obtain ⟨gs, s, q⟩ := p
  show endV P1 P2 all.toList st0 (fs.reverse ++ (f :: gs)) s q = endV P1 P2 all.toList st0 ((f :: fs).reverse ++ gs) s q
  simp
theorem chk_eq (ops : List Oper) (P1 P2 : List (Nat × Nat)) (l : List Foot) : chk ops P1 P2 l = (pairsOk l P1 && (!anyFar l ops || pairsOk l P2)) := by
 unfold chk; rw [F.e_pairsOk, F.e_anyFar]
theorem compD_ok (all : Array Oper) (P1 P2 : List (Nat × Nat)) (st0 : St) : ∀ (l : List Oper) (k : Nat) (env : List (Nat × V)) (D : List Nat) (fs : List Foot) (st : St) (kk : G.K) (k' : K), all.toList.drop k = l → useOk all l D = true → (∀ t ∈ D, aget .dead st.tm t = lkT env tm t) → (∀ t ∈ keeps, t ∈ D) →
  (∀ st' T', Ag keeps st'.tm T' → RelR keeps (kk st') (k' T' st'.loc st'.hp)) → RelR keeps (next (restE P C call gl all P1 P2 st0 l k fs st none) kk) (compD P C call gl all keeps P1 P2 l k env fs tm st.loc st.hp k')
 | [], k, env, D, fs, st, kk, k', hl, hu, hD, hk, hc => by
  show RelR keeps (next (endV P1 P2 all.toList st0 (fs.reverse ++ []) st none) kk) (bif chk all.toList P1 P2 (revA fs []) then k' (flush keeps tm env []) st.loc st.hp else none)
  rw [revA_eq, chk_eq]
  simp only [endV]
  cases (pairsOk (fs.reverse ++ []) P1 && (!anyFar (fs.reverse ++ []) all.toList || pairsOk (fs.reverse ++ []) P2)) with
  | false => trivial
  | true => exact hc st _ (fun t ht => by rw [flush_get env [] t ht (by simp)]; exact hD t (hk t ht))
 | o :: l, k, env, D, fs, st, kk, k', hl, hu, hD, hk, hc => by
  have hl' : all.toList.drop (k + 1) = l := by
   have := congrArg (List.drop 1) hl
   rw [List.drop_drop] at this
   simpa using this
  simp only [useOk, Bool.and_eq_true] at hu
  obtain ⟨⟨hu1, hu2⟩, hu3⟩ := hu
  have hI : ∀ t ∈ tmpsOf o, aget .dead st.tm t = lkT env tm t := fun t ht => hD t (by simpa using List.all_eq_true.1 hu1 t ht)
  have hsub : ∀ t ∈ keeps, t ∈ psd o.dst D := fun t ht => by cases o.dst with | none => exact hk t ht | some d => exact List.mem_cons_of_mem _ (hk t ht)
  have hj : ∀ v ft lo h, RelR keeps (next (restE P C call gl all P1 P2 st0 l (k + 1) (ft :: fs) (putV { st with loc := lo, hp := h } o.dst v) none) kk) (compD P C call gl all keeps P1 P2 l (k + 1) (psh o.dst v env) (ft :: fs) tm lo h k') := by
   intro v ft lo h
   have := compD_ok all P1 P2 st0 l (k + 1) (psh o.dst v env) (psd o.dst D) (ft :: fs) (putV { st with loc := lo, hp := h } o.dst v) kk k' hl' hu3 (psd_ok hD lo h o.dst v) hsub hc
   rw [(put_loc _ _ _).1, (put_loc _ _ _).2] at this
   exact this
  have hx : ∀ v ft h, RelR keeps (next (restE P C call gl all P1 P2 st0 l (k + 1) (ft :: fs) (putV st o.dst (.tuple [])) (some (k, v, h))) kk) (stopD P C call gl all P1 P2 k o.dst env fs tm st.loc st.hp v ft h) := by
   intro v ft h
   unfold stopD restE
   rw [F.e_drawOps, F.dropR_eq, hl']
   have h0 := psd_ok hD st.loc st.hp o.dst (.tuple [])
   have e0 : ({ st with loc := st.loc, hp := st.hp } : St) = st := rfl
   rw [e0] at h0
   rcases draw_two (P := P) (C := C) (call := call) (gl := gl) all l (psd o.dst D) (k + 1) (some (k, v, h)) (putV st o.dst (.tuple [])) ⟨layS (psh o.dst (.tuple []) env) tm, st.loc, st.hp⟩ hu3
     (fun t ht => by rw [h0 t ht]; exact (layS_get tm _ t).symm) (put_loc _ _ _).1 (put_loc _ _ _).2 with ⟨a1, a2⟩ | ⟨gs, s, s2, q, a1, a2, a3, a4, a5⟩
   ·rw [a1]
    show RelR keeps (next none kk) (onSome (drawOps P C call gl all l (Nat.succ k) (some (k, v, h)) _) _ none)
    rw [show Nat.succ k = k + 1 from rfl, a2]; trivial
   ·rw [a1]
    have hq := drawOps_stop _ _ _ _ _ _ _ a1
    subst hq
    show RelR keeps (next (endV P1 P2 all.toList st0 ((ft :: fs).reverse ++ gs) s (some (k, v, h))) kk) (onSome (drawOps P C call gl all l (Nat.succ k) (some (k, v, h)) _) _ none)
    rw [show Nat.succ k = k + 1 from rfl, a2]
    show RelR keeps _ (bif chk all.toList P1 P2 (revA fs (ft :: gs)) && F.traceless ((F.masks all.toList []).getD k 0) (revA fs (ft :: gs)) 0 then some (Ex.panic v, ⟨tm, s2.loc, h⟩) else none)
    rw [revA_eq, chk_eq, F.e_traceless, F.e_masks]
    have e1 : (ft :: fs).reverse ++ gs = fs.reverse ++ (ft :: gs) := by simp
    rw [e1]
    simp only [endV]
    cases (pairsOk (fs.reverse ++ (ft :: gs)) P1 && (!anyFar (fs.reverse ++ (ft :: gs)) all.toList || pairsOk (fs.reverse ++ (ft :: gs)) P2) && traceless ((masks all.toList []).getD k 0) (fs.reverse ++ (ft :: gs)) 0) with
    | false => trivial
    | true => exact ⟨rfl, a3, rfl, .inl ⟨v, rfl⟩⟩
  have hone := stpD_ok (P := P) (C := C) (call := call) (gl := gl) (keeps := keeps) (KK := fun ft s => next (restE P C call gl all P1 P2 st0 l (k + 1) (ft :: fs) s none) kk) (X := fun v ft h => next (restE P C call gl all P1 P2 st0 l (k + 1) (ft :: fs) (putV st o.dst (.tuple [])) (some (k, v, h))) kk)
   (j := fun v ft lo h => compD P C call gl all keeps P1 P2 l (k + 1) (psh o.dst v env) (ft :: fs) tm lo h k') (x := stopD P C call gl all P1 P2 k o.dst env fs tm st.loc st.hp) hI hj hx
  have hstep : next (restE P C call gl all P1 P2 st0 (o :: l) k fs st none) kk = match wantedV all o st.ρ with
    | none => none
    | some false => next (restE P C call gl all P1 P2 st0 l (k + 1) (ft0 :: fs) (putV st o.dst (.tuple [])) none) kk
    | some true => estep P C call gl st o (fun ft s => next (restE P C call gl all P1 P2 st0 l (k + 1) (ft :: fs) s none) kk) (fun v ft h => next (restE P C call gl all P1 P2 st0 l (k + 1) (ft :: fs) (putV st o.dst (.tuple [])) (some (k, v, h))) kk) := by
   conv => lhs; unfold restE
   simp only [drawOps, behind, cond_false]
   cases wantedV all o st.ρ with
   | none => rfl
   | some b =>
    cases b with
    | false =>
     simp only []
     rw [restE_cons]; rfl
    | true =>
     simp only []
     unfold estep
     cases footV P C gl st.ρ st.lc o with
     | none => rfl
     | some ft =>
      cases oneV P C call gl st o with
      | none => rfl
      | some p =>
       obtain ⟨ex, s⟩ := p
       cases ex with
       | normal => simp only []; rw [restE_cons]
       | exit i => rfl
       | ret => rfl
       | panic v =>
        simp only []
        cases stopOp o with
        | false => rfl
        | true => simp only [cond_true]; rw [restE_cons]
  rw [hstep]
  cases hg : o.guard with
  | none =>
   have hw : wantedV all o st.ρ = some true := by simp only [wantedV, hg]
   rw [hw]
   simp only []
   rw [compD]
   simp only [hg]
   exact hone
  | some q =>
   obtain ⟨i, w⟩ := q
   rw [compD]
   simp only [hg]
   cases hd : (all[i]?).bind (·.dst) with
   | none =>
    have hw : wantedV all o st.ρ = none := by simp only [wantedV, hg, hd]
    rw [hw]; trivial
   | some d =>
    have hdD : d ∈ D := by
     have : guardOk all D o = D.contains d := by simp only [guardOk, hg, hd]
     rw [this] at hu2; simpa using hu2
    have hw : wantedV all o st.ρ = wv (lkT env tm d) w := by
     rw [← hD d hdD]
     simp only [wantedV, hg, hd]
     rfl
    rw [hw]
    simp only [jn, brB]
    cases wv (lkT env tm d) w with
    | none => trivial
    | some b =>
     cases b with
     | false =>
      have := hj (.tuple []) ft0 st.loc st.hp
      exact this
     | true => exact hone
theorem region_comp {f id : Nat} {ops : Array Oper} {kk : G.K} {k' : K} (hu : useOk ops ops.toList keeps = true) (ha : Ag keeps st.tm tm) (hc : ∀ st' T', Ag keeps st'.tm T' → RelR keeps (kk st') (k' T' st'.loc st'.hp)) :
  RelR keeps (next (regionV P C call f id ops true st) kk) (compD P C call (C.glob f) ops keeps (C.pairs f id) (C.pairsH f id) ops.toList 0 [] [] tm st.loc st.hp k') := by
 have := compD_ok (P := P) (C := C) (call := call) (gl := C.glob f) (tm := tm) (keeps := keeps) ops (C.pairs f id) (C.pairsH f id) st ops.toList 0 [] keeps [] st kk k' rfl hu (fun t ht => by rw [ha t ht]; exact (gt_eq tm t).symm) (fun t ht => ht) hc
 have e : restE P C call (C.glob f) ops (C.pairs f id) (C.pairsH f id) st ops.toList 0 [] st none = regionV P C call f id ops true st := by
  unfold restE regionV
  simp only [List.reverse_nil, List.nil_append]
  cases drawOps P C call (C.glob f) ops ops.toList 0 none st with
  | none => rfl
  | some p => rfl
 rw [e] at this
 exact this
end
end Go.AM.S
end

section
namespace Go.AM.S
open Go Go.AM
open _root_.Go.AM.G (R next next_next next_done okO_eq opd_eq onSome_eq oneV_pure)
section
variable {P : Program} {C : Cfg} {call : CallF} {gl : Nat → Bool} {keeps : List Nat}
def okC (keeps : List Nat) (f : FuncId) : Code → Bool
 | .region _ ops _ => useOk ops ops.toList keeps
 | .seq a b => okC keeps f a && okC keeps f b
 | .cond c a b => (match c with | .tmp t => keeps.contains t | _ => true) && okC keeps f a && okC keeps f b
 | .block _ b => okC keeps f b
 | .loop b => okC keeps f b
 | _ => true
theorem code_ok (f fuel : Nat) : ∀ (c : Code) (st : St) (T : Tm) (k : G.K) (k' : K), okC keeps f c = true → Ag keeps st.tm T →
  (∀ st' T', Ag keeps st'.tm T' → RelR keeps (k st') (k' T' st'.loc st'.hp)) → RelR keeps (next (codeV P C call f fuel c st) k) (run call fuel (toRC P C keeps f c) T st.loc st.hp k') := by
 intro c
 induction c with
 | skip => intro st T k k' _ ha hc; exact hc st T ha
 | exit i => intro st T k k' _ ha hc; exact ⟨rfl, rfl, rfl, .inr ha⟩
 | ret => intro st T k k' _ ha hc; exact ⟨rfl, rfl, rfl, .inr ha⟩
 | region id ops draw =>
  intro st T k k' hu ha hc
  simp only [okC] at hu
  have main : RelR keeps (next (opsV P C call (C.glob f) ops ops.toList st) k) (comp P C call (C.glob f) ops keeps ops.toList [] T st.loc st.hp k') :=
   comp_ok (keeps := keeps) ops ops.toList [] keeps st k k' hu (fun t ht => by rw [ha t ht]; exact (gt_eq T t).symm) (fun t ht => ht) hc
  rw [codeV]
  show RelR keeps (next (regionV P C call f id ops draw st) k) ((bif !draw || mildR C f id ops then (fun call tm loc hp k => comp P C call (C.glob f) ops keeps ops.toList [] tm loc hp k)
   else (fun call tm loc hp k => compD P C call (C.glob f) ops keeps (C.pairs f id) (C.pairsH f id) ops.toList 0 [] [] tm loc hp k)) call T st.loc st.hp k')
  cases draw with
  | false => exact main
  | true =>
   cases hm : mildR C f id ops with
   | true => rw [region_mild hm]; exact main
   | false => exact region_comp hu ha hc
 | seq a b iha ihb =>
  intro st T k k' hu ha hc
  simp only [okC, Bool.and_eq_true] at hu
  rw [G.codeV_next, next_next]
  exact iha st T _ _ hu.1 ha (fun st' T' ha' => ihb st' T' k k' hu.2 ha' hc)
 | cond x a b iha ihb =>
  intro st T k k' hu ha hc
  simp only [okC, Bool.and_eq_true] at hu
  have hx : AM.opd st.ρ x = lk [] T x := by
   cases x with
   | tmp t => show aget .dead st.tm t = gt T t; rw [gt_eq]; exact ha t (by simpa using hu.1.1)
   | _ => rfl
  rw [codeV, hx]
  show RelR keeps _ (G.onBool (lk [] T x) (fun q => Bool.rec (motive := fun _ => R) (run call fuel (toRC P C keeps f b) T st.loc st.hp k') (run call fuel (toRC P C keeps f a) T st.loc st.hp k') q) none)
  cases lk [] T x with
  | bool q =>
   cases q with
   | true => exact iha st T k k' hu.1.2 ha hc
   | false => exact ihb st T k k' hu.2 ha hc
  | _ => trivial
 | block id b ih =>
  intro st T k k' hu ha hc
  simp only [okC] at hu
  have hb := ih st T G.done done hu ha (fun st' T' ha' => ⟨rfl, rfl, rfl, .inr ha'⟩)
  rw [next_done] at hb
  rw [codeV]
  show RelR keeps _ (G.onSome (run call fuel (toRC P C keeps f b) T st.loc st.hp done) (fun p => Ex.rec (motive := fun _ => Nat → K → St → R) (fun _ k st => k st.tm st.loc st.hp)
   (fun i id k st => bif Nat.beq i id then k st.tm st.loc st.hp else some (.exit i, st)) (fun _ _ st => some (.ret, st)) (fun v _ _ st => some (.panic v, st)) p.1 id k' p.2) none)
  generalize codeV P C call f fuel b st = r at hb ⊢
  generalize run call fuel (toRC P C keeps f b) T st.loc st.hp done = r' at hb ⊢
  cases r with
  | none =>
   cases r' with
   | none => trivial
   | some p => exact hb.elim
  | some p =>
   obtain ⟨ex, s⟩ := p
   cases r' with
   | none => exact hb.elim
   | some p' =>
    obtain ⟨ex', s'⟩ := p'
    obtain ⟨rfl, h1, h2, h3⟩ := hb
    cases ex with
    | normal =>
     show RelR keeps (k s) (k' s'.tm s'.loc s'.hp)
     rw [← h1, ← h2]
     exact hc s s'.tm (h3.resolve_left (fun ⟨v, e⟩ => by simp at e))
    | exit i =>
     have h3 := h3.resolve_left (fun ⟨v, e⟩ => by simp at e)
     show RelR keeps (next (bif Nat.beq i id then some (.normal, s) else some (.exit i, s)) k) (bif Nat.beq i id then k' s'.tm s'.loc s'.hp else some (.exit i, s'))
     cases Nat.beq i id with
     | true =>
      show RelR keeps (k s) (k' s'.tm s'.loc s'.hp)
      rw [← h1, ← h2]; exact hc s s'.tm h3
     | false => exact ⟨rfl, h1, h2, .inr h3⟩
    | ret => exact ⟨rfl, h1, h2, h3⟩
    | panic v => exact ⟨rfl, h1, h2, h3⟩
 | loop b ih =>
  intro st T k k' hu ha hc
  simp only [okC] at hu
  rw [codeV]
  show RelR keeps _ (Nat.rec (motive := fun _ => K) (fun _ _ _ => none) (fun _ il tm loc hp => run call fuel (toRC P C keeps f b) tm loc hp il) fuel T st.loc st.hp)
  have key : ∀ (n : Nat) (st : St) (T : Tm), Ag keeps st.tm T → RelR keeps (loopV (codeV P C call f fuel b) n st) (Nat.rec (motive := fun _ => K) (fun _ _ _ => none) (fun _ il tm loc hp => run call fuel (toRC P C keeps f b) tm loc hp il) n T st.loc st.hp) := by
   intro n
   induction n with
   | zero => intro st T _; trivial
   | succ n ihn =>
    intro st T ha
    rw [G.loopV_next]
    exact ih st T _ _ hu ha (fun st' T' ha' => ihn st' T' ha')
  have out : ∀ (n : Nat) (st : St), next (loopV (codeV P C call f fuel b) n st) k = loopV (codeV P C call f fuel b) n st := by
   intro n
   induction n with
   | zero => intro st; rfl
   | succ n ihn =>
    intro st
    rw [G.loopV_next, next_next]
    exact congrArg _ (funext ihn)
  rw [out]
  exact key fuel st T ha
 | _ => intro st T k k' hu ha hc; trivial
end
end Go.AM.S
end

section
namespace Go.AM.S
open Go Go.AM
open _root_.Go.AM.G (R next next_next next_done okO_eq opd_eq onSome_eq oneV_pure)
section
variable {P : Program} {C : Cfg} {call : CallF} {keeps : List Nat}
def resOk (keeps : List Nat) (l : List ResultVar) : Bool := l.all fun r => match r with
 | .tmp t => keeps.contains t
 | .cell a _ => keeps.contains a
theorem res_congr {s s' : St} (h1 : s.loc = s'.loc) (h2 : s.hp = s'.hp) (ha : Ag keeps s.tm s'.tm) : ∀ l : List ResultVar, resOk keeps l = true → resV P s l = resV P s' l
 | [], _ => rfl
 | .tmp t :: l, h => by
  simp only [resOk, List.all_cons, Bool.and_eq_true] at h
  have := res_congr h1 h2 ha l h.2
  have ht : s.ρ t = s'.ρ t := ha t (by simpa using h.1)
  simp only [resV, this, ht]
 | .cell a t :: l, h => by
  simp only [resOk, List.all_cons, Bool.and_eq_true] at h
  have := res_congr h1 h2 ha l h.2
  have ht : s.ρ a = s'.ρ a := ha a (by simpa using h.1)
  have hr : ∀ r, getRow s r = getRow s' r := by
   intro r
   cases r with
   | loc x g => simp only [getRow, St.lc, h1]
   | glob x => simp only [getRow, h2]
  simp only [resV, this, ht, hr]
def fin (P : Program) (h : Hp) (res : List ResultVar) (st : St) : Option Out := match resV P st res with
 | none => none
 | some l => match exps false st l with
  | none => none
  | some (l, st') => match l with
   | [v] => some (.val v (backHp h st'.hp [v]))
   | vs => some (.val (.tuple vs) (backHp h st'.hp vs))
theorem fin_congr {h : Hp} {res : List ResultVar} {s s' : St} (h1 : s.loc = s'.loc) (h2 : s.hp = s'.hp) (ha : Ag keeps s.tm s'.tm) (hr : resOk keeps res = true) : fin P h res s = fin P h res s' := by
 unfold fin
 rw [res_congr h1 h2 ha res hr]
 have e : s' = s.as s'.tm := by
  cases s; cases s'
  simp at h1 h2
  subst h1; subst h2; rfl
 cases resV P s' res with
 | none => rfl
 | some l =>
  simp only []
  rw [e, exps_as]
  cases exps false s l with
  | none => rfl
  | some p => obtain ⟨l, st'⟩ := p; rfl
structure FOk (P : Program) (C : Cfg) (f : FuncId) (fc : Fc) : Prop where
 ok : ∃ fn cd keeps, P.funcs[f]? = some fn ∧ fn.body = some cd ∧ fc.rc = toRC P C keeps f cd ∧ fc.res = fn.results.toList ∧ okC keeps f cd = true ∧ resOk keeps fn.results.toList = true
theorem finS (h : Hp) (res : List ResultVar) (st : St) : G.onSome (F.resV P st res) (fun l => G.onSome (F.exps false st l) (fun q => match q.1 with
   | [v] => some (Out.val v (F.backHp h q.2.hp [v]))
   | vs => some (.val (.tuple vs) (F.backHp h q.2.hp vs))) none) none = fin P h res st := by
 rw [F.e_resV, F.e_exps, F.e_backHp]
 unfold fin
 cases resV P st res with
 | none => rfl
 | some l =>
  show G.onSome (exps false st l) _ none = _
  simp only []
  cases exps false st l with
  | none => rfl
  | some p => obtain ⟨l, s⟩ := p; rfl
theorem body_ok {tbl : Nat → Option Fc} (h1 : ∀ f fc, tbl f = some fc → C.use f = true ∧ FOk P C f fc) (h2 : ∀ f, tbl f = none → C.use f = false) (call : CallF) (fuel : Nat) : body P tbl call fuel = bodyV P C call fuel := by
 funext f args h
 unfold body bodyV
 cases hf : tbl f with
 | none => rw [h2 f hf]; rfl
 | some fc =>
  obtain ⟨hu, fn, cd, keeps, e1, e2, e3, e4, e5, e6⟩ := h1 f fc hf
  rw [hu, e1]
  simp only [e2]
  show G.onSome (run call fuel fc.rc (F.startTm args) .lf { h with dirty := none } done) _ none = _
  rw [F.e_startTm, e3, e4]
  have hrun := code_ok (P := P) (C := C) (call := call) (keeps := keeps) f fuel cd { tm := startTm args, loc := .lf, hp := { h with dirty := none } } (startTm args) G.done done e5 (fun t _ => rfl) (fun st' T' ha => ⟨rfl, rfl, rfl, .inr ha⟩)
  rw [next_done] at hrun
  generalize codeV P C call f fuel cd { tm := startTm args, loc := .lf, hp := { h with dirty := none } } = r at hrun ⊢
  generalize run call fuel (toRC P C keeps f cd) (startTm args) .lf { h with dirty := none } done = r' at hrun ⊢
  cases r with
  | none =>
   cases r' with
   | none => rfl
   | some p => exact hrun.elim
  | some p =>
   obtain ⟨ex, s⟩ := p
   cases r' with
   | none => exact hrun.elim
   | some p' =>
    obtain ⟨ex', s'⟩ := p'
    obtain ⟨rfl, k1, k2, k3⟩ := hrun
    cases ex with
    | normal =>
     have k3 := k3.resolve_left (fun ⟨v, e⟩ => by simp at e)
     refine (finS h fn.results.toList s').trans ?_
     rw [← fin_congr k1 k2 k3 e6]; rfl
    | ret =>
     have k3 := k3.resolve_left (fun ⟨v, e⟩ => by simp at e)
     refine (finS h fn.results.toList s').trans ?_
     rw [← fin_congr k1 k2 k3 e6]; rfl
    | exit i => rfl
    | panic v =>
     show some (Out.panic v (F.backHp h s'.hp [v])) = some (Out.panic v (backHp h s.hp [v]))
     rw [F.e_backHp, k2]
theorem fn_eq {kn : Kn} {tbl : Nat → Option Fc} (h1 : ∀ f fc, tbl f = some fc → C.use f = true ∧ FOk P C f fc) (h2 : ∀ f, tbl f = none → C.use f = false) : ∀ n, fn P kn tbl n = fnV P C kn n
 | 0 => rfl
 | n + 1 => by
  funext f args h
  show G.onSome (kn f) (fun k => k (fn P kn tbl n) args h) (body P tbl (fn P kn tbl n) n f args h) = bodyK P C kn (fnV P C kn n) n f args h
  rw [fn_eq h1 h2 n, body_ok h1 h2]
  unfold bodyK
  cases kn f <;> rfl
def lkL {α : Type} : List (Nat × α) → Nat → Option α
 | [], _ => none
 | (k, a) :: l, f => bif Nat.beq k f then some a else lkL l f
theorem lkL_mem {α : Type} : ∀ {l : List (Nat × α)} {f : Nat} {a : α}, lkL l f = some a → (f, a) ∈ l
 | [], f, a, h => by simp [lkL] at h
 | (k, b) :: l, f, a, h => by
  simp only [lkL] at h
  cases hb : Nat.beq k f with
  | true =>
   rw [hb] at h
   simp at h
   have := Nat.eq_of_beq_eq_true hb
   subst this; subst h; simp
  | false => rw [hb] at h; exact List.mem_cons_of_mem _ (lkL_mem h)
theorem lkL_none {α : Type} : ∀ {l : List (Nat × α)} {f : Nat}, lkL l f = none → f ∉ l.map (·.1)
 | [], f, _ => by simp
 | (k, b) :: l, f, h => by
  simp only [lkL] at h
  cases hb : Nat.beq k f with
  | true => rw [hb] at h; simp at h
  | false =>
   rw [hb] at h
   have h2 := lkL_none h
   simp only [List.map_cons, List.mem_cons, not_or]
   exact ⟨fun e => by subst e; simp at hb, h2⟩
end
end Go.AM.S
end

section
namespace Go.AM.S
open Go Go.AM
def rgn (id : Nat) : Code → Option (Array Oper)
 | .region i ops _ => bif Nat.beq i id then some ops else none
 | .seq a b => (match rgn id a with
  | some o => some o
  | none => rgn id b)
 | .cond _ a b => (match rgn id a with
  | some o => some o
  | none => rgn id b)
 | .block _ b => rgn id b
 | .loop b => rgn id b
 | _ => none
def rgA (fn : Func) (id : Nat) : Array Oper := match fn.body with
 | some c => (rgn id c).getD #[]
 | none => #[]
def noOp : Oper := { dst := none, op := .panic (.func 0), type := 0, pos := "", after := #[], guard := none }
def opA (fn : Func) (id i : Nat) : Oper := ((rgA fn id)[i]?).getD noOp
theorem fok {P : Program} {C : Cfg} {f : FuncId} {fn : Func} {cd : Code} {kp : List Nat} {rc : RC} (h1 : fn.body = some cd) (h2 : P.funcs[f]? = some fn) (h3 : rc = toRC P C kp f cd) (h4 : okC kp f cd = true) (h5 : resOk kp fn.results.toList = true) :
  FOk P C f ⟨rc, fn.results.toList⟩ := ⟨⟨fn, cd, kp, h2, h1, h3, rfl, h4, h5⟩⟩
end Go.AM.S
end

section
namespace Go.AM
open Go Go.ChangeShapes Go.WideShapes
structure Stays (W W' : World) : Prop where
 os : W'.os = W.os
 output : W'.output = W.output
 size : W.heap.size ≤ W'.heap.size
 heap : ∀ i, i < W.heap.size → W'.heap[i]? = W.heap[i]?
theorem Stays.kept {W W' : World} (h : Stays W W') (may : MemPlace → Prop) : W.keptBut W' may := by
 refine ⟨h.os, h.output, fun i hi => ?_⟩
 rw [h.heap i hi]
 cases hq : W.heap[i]? with
 | none => simp
 | some o =>
  cases o <;> simp
theorem Stays.frozen {W W' : World} (h : Stays W W') {a : Addr} (ha : a.block < W.heap.size) : W'.frozen? a = W.frozen? a := by
 unfold World.frozen?
 rw [h.heap _ ha]
def noHp : Hp := ⟨[], none, 0⟩
def topCtx [Laid] : Ctx := { gl := fun _ => none, lc := fun _ _ => none, shut := Laid.cells, ext := fun _ => none, text := fun _ => none }
theorem top_sound1 [Laid] {P : Program} {call : CallF} (hC : CallOk P call) {f : FuncId} {args : List V} {v : V} {h : Hp} (hr : call f args noHp = some (.val v h)) {W : World} {xs : List Value}
  (hargs : RelL topCtx args xs) (hnl : V.noLocL args = true) (hl : ∀ b o x, Laid.cells b o = some x → W.cell? ⟨b, o, none⟩ = some x) :
  Calls P f xs.toArray W fun e W' => (∃ x, e = .returned x ∧ ∃ c, Rel c v x) ∧ Stays W W' := by
 have hrow : ∀ r row, getRow (⟨.lf, .lf, noHp⟩ : St) r = some row → row = .gone := by
  intro r row hr
  cases r with
  | loc s g =>
   rw [getRow_loc] at hr
   have : (⟨.lf, .lf, noHp⟩ : St).lc s = (0, .gone) := aget_lf _ _
   rw [this] at hr
   split at hr
   ·simpa using hr.symm
   ·simp at hr
  | glob r => simp [getRow, noHp] at hr
 have hblk : ∀ r, (topCtx).blk r = none := fun r => by cases r <;> rfl
 have hW : WRel topCtx ⟨.lf, .lf, noHp⟩ W := by
  refine ⟨fun b o x hx => hl b o x hx, fun r row hr => ?_, fun r1 r2 row1 row2 b g1 g2 n1 n2 => absurd (hrow _ _ g1) n1, fun _ _ => rfl, fun _ _ _ => rfl, fun r b hb => ?_, fun r n hn => ?_, fun b n hn => ?_⟩
  ·rw [hrow r row hr]; trivial
  ·rw [hblk] at hb; simp at hb
  ·simp [topCtx] at hn
  ·simp [topCtx] at hn
 obtain ⟨_, hc⟩ := hC f args noHp _ hr topCtx W ⟨.lf, .lf, noHp⟩ xs rfl hW (fun r frz cs hr => by simp [noHp] at hr) hargs hnl (fun _ _ _ h => h)
 refine hc.mono (fun e W' he => ?_)
 cases e with
 | returned x =>
  obtain ⟨c', r⟩ := he
  have hno : ∀ b, ¬ Own topCtx ⟨.lf, .lf, noHp⟩ b := fun b ⟨r, row, h1, h2, _⟩ => h2 (hrow r row h1)
  exact ⟨⟨x, rfl, c', r.rel⟩, ⟨r.keep.os, r.keep.output, r.keep.size, fun i hi => r.keep.block i hi (hno i)⟩⟩
 | panicked ch => exact he.elim
 | outgrown => exact he.elim
theorem top_true1 [Laid] {P : Program} {call : CallF} (hC : CallOk P call) {f : FuncId} {args : List V} {h : Hp} (hr : call f args noHp = some (.val (.bool true) h)) {W : World} {xs : List Value}
  (hargs : RelL topCtx args xs) (hnl : V.noLocL args = true) (hl : ∀ b o x, Laid.cells b o = some x → W.cell? ⟨b, o, none⟩ = some x) :
  Calls P f xs.toArray W fun e W' => e = .returned (.bool true) ∧ Stays W W' :=
 (top_sound1 hC hr hargs hnl hl).mono (fun e W' ⟨⟨x, he, c, hx⟩, hs⟩ => by
  rw [hx.bool_inv] at he
  exact ⟨he, hs⟩)
theorem top_true [Laid] {P : Program} {call : CallF} (hC : CallOk P call) {f : FuncId} {args : List V} {h : Hp} (hr : call f args noHp = some (.val (.bool true) h)) {W : World} {xs : List Value}
  (hargs : ∀ c : Ctx, RelL c args xs) (hnl : V.noLocL args = true) (hl : ∀ b o x, Laid.cells b o = some x → W.cell? ⟨b, o, none⟩ = some x) :
  Calls P f xs.toArray W fun e W' => e = .returned (.bool true) ∧ Stays W W' := top_true1 hC hr (hargs _) hnl hl
theorem Stays.trod {H : Type} {enc : TypeId × Value → H} {P : Program} {t : TypeId} (hl : laidOutB P = true) (hr : P.readableRec t = true) (hrow : t < P.types.size) {W W' : World} {v : Value} {d : DataW H} {ps : List MemPlace}
  (h : DataW.Trod enc P W 0 (fun _ => true) true t v d ps) (hb : Stays W W') (hlt : ∀ x ∈ ps, x.block < W.heap.size) {sp : Nat → Bool} (hsp : ∀ p ∈ ps, sp p.block = true) : DataW.Trod enc P W' 0 sp true t v d ps :=
 WideElems.Trod_stays hl hr hrow h (fun p hp => by
  cases p with
  | cell b o => exact World.cell?_of_block (w := W) (hb.heap b (hlt _ hp))
  | map b => exact hb.heap b (hlt _ hp)) hsp
theorem okWide_spot {P : Program} {w : World} {r : Reach} {b0 : Nat} {t e : TypeId} {a : Addr} {len cap : Nat} (ht : P.underlying t = some (.slice e)) (h : Value.okWide P w r b0 t (.slice (some a) len cap)) : a.spot = none := by
 simp only [Value.okWide, ht, Cell.okWide, Cell.ok, World.has] at h
 exact h.2.2.2.1
theorem post_of_stays {H : Type} {enc : TypeId × Value → H} {P : Program} {f : Func} {s : ChangeSpec} {apart fresh handsOn again : Bool} {W W' : World} {args : Array Value} {v : Value} {ds gs : List (DataW H)} {before pa pv : List MemPlace}
  (hW : DataW.Whole enc P f.params.toList s.vars apart W args.toList ds gs before)
  (hres : ∀ (b : Nat) (sp : Nat → Bool) (hd : Bool), DataW.TrodAll enc P W' b sp hd f.resultTypes.toList (v.resultList f.resultTypes.size) (s.fn H (ds ++ gs)).results [])
  (hargs : ∀ sp : Nat → Bool, (∀ p ∈ before, sp p.block = true) → DataW.TrodAll enc P W' 0 sp true f.params.toList args.toList (s.fn H (ds ++ gs)).args pa)
  (hvars : ∀ sp : Nat → Bool, (∀ p ∈ before, sp p.block = true) → DataW.TrodVars enc P W' sp s.vars (s.fn H (ds ++ gs)).vars pv)
  (hps : before = pa ++ pv) (hs : Stays W W')
  (hok : ∀ (j : Nat) (t : TypeId) (r : Value), f.resultTypes[j]? = some t → (v.resultList f.resultTypes.size)[j]? = some r → Value.okWide P W' .any 0 t r) :
  s.post enc P f apart fresh handsOn again W args v W' := by
 have hold : ∀ p ∈ before, (fun b => decide (b < W.heap.size)) p.block = true := fun p hp => by simpa using hW.lt p hp
 have hlt := fun p hp => hW.lt p hp
 refine ⟨ds, gs, before, [], pa, pv, hW, hres _ _ _, hargs _ hold, hvars _ hold, World.keptBut_mono (fun p hp => ⟨hp, ?_⟩) (hs.kept (· ∈ before)), fun _ => ?_⟩
 ·rw [hps, List.mem_append] at hp
  exact Or.inr hp
 ·obtain ⟨_, _, _, _, _, hz, hn⟩ := hW
  refine ⟨hok, _, _, ([] ++ pa) ++ pv, ⟨[] ++ pa, pv, trodAll_append (hargs _ (fun _ _ => rfl)) (hres _ _ _), hvars _ (fun _ _ => rfl), rfl, ?_, ?_⟩, ?_⟩
  ·intro b off hp
   have hp' : MemPlace.cell b off ∈ before := by rw [hps]; simpa using hp
   rw [hs.frozen (hlt _ hp')]
   exact hz b off hp'
  ·intro ha
   have := hn ha
   rw [hps] at this
   simpa using this
  ·intro p hp _
   rw [hps]
   simpa using hp
end Go.AM
end

section
namespace Go.AM
open Go
def isPtr : V → Bool
 | .ptr (.glob _) _ => true
 | .iptr cs => V.noLocL cs
 | _ => false
def errAs (T TT : Nat) : CallF → List V → Hp → Option Out := fun _ args h => match args with
 | [.nili, _] => some (.val (.bool false) h)
 | [.iface t v, .iface tt (.ptr (.glob r) off)] => bif Nat.beq t T && Nat.beq tt TT && isPtr v then
   (match h.rows[r]? with
   | some (.cells false cs) => (match setAt cs off [v] with
    | some cs' => some (.val (.bool true) ⟨h.rows.set r (.cells false cs'), lower h.dirty r, h.mods + 1⟩)
    | none => none)
   | _ => none)
  else none
 | _ => none
structure AsOk [Laid] (P : Program) (f T TT : Nat) : Prop where
 code : ∃ fn cd, P.funcs[f]? = some fn ∧ fn.body = some cd
 nil : ∀ (t : Value) (w : World), Calls P f #[.nilIface, t] w fun e w' => e = .returned (.bool false) ∧ w' = w
 hit : ∀ (e t : Addr) (old : Value) (w : World), (∀ b o x, Laid.cells b o = some x → w.cell? ⟨b, o, none⟩ = some x) → w.cell? t = some old → w.frozen? t = false →
  Calls P f #[.iface T (.pointer (some e)), .iface TT (.pointer (some t))] w fun ev w' => ev = .returned (.bool true) ∧
   ∃ a1 t1 a2 t2 a3 t3 a4 t4, w' = ((((w.alloc (.cells a1 t1)).alloc (.cells a2 t2)).alloc (.cells a3 t3)).alloc (.cells a4 t4)).setCell t (.pointer (some e))
theorem errAs_still (T TT : Nat) (call : CallF) (f : FuncId) : CallStill (fun _ => errAs T TT call) := by
 intro g args h out hr
 simp only [errAs] at hr
 split at hr
 ·simp at hr; rw [← hr]; exact .refl _
 ·rename_i t v tt r off
  generalize (Nat.beq t T && Nat.beq tt TT && isPtr v) = q at hr
  cases q with
  | false => simp at hr
  | true =>
   simp only [cond_true] at hr
   split at hr
   ·split at hr
    ·rename_i cs' _
     simp at hr
     rw [← hr]
     exact dirt_set (st := ⟨.lf, .lf, h⟩) (.glob r) (.cells false cs')
    ·simp at hr
   ·simp at hr
 ·simp at hr
theorem errAs_ok [Laid] {P : Program} {f T TT : Nat} (hA : AsOk P f T TT) (call : CallF) : CallOk P (fun g args h => bif Nat.beq g f then errAs T TT call args h else none) := by
 intro g args h out hr c w st xs hst hW hH hargs hnl hlaid
 subst hst
 dsimp only at hr
 cases hg : Nat.beq g f with
 | false => rw [hg] at hr; simp at hr
 | true =>
  obtain rfl := Nat.eq_of_beq_eq_true hg
  rw [hg] at hr
  simp only [cond_true, errAs] at hr
  refine ⟨hA.code, ?_⟩
  split at hr
  ·rename_i v
   simp at hr
   subst hr
   skip
   have h2 : xs.length = 2 := hargs.1
   obtain ⟨x, y, rfl⟩ : ∃ x y, xs = [x, y] := by
    match xs, h2 with
    | [x, y], _ => exact ⟨x, y, rfl⟩
   have hx := hargs.head
   cases hx
   refine (hA.nil y w).mono (fun e w' ⟨he, hw⟩ => ?_)
   subst he; subst hw
   exact ⟨c, .refl c, .bool false, hW, .refl c st _, .refl _, hH⟩
  ·rename_i t v tt r off
   generalize hq : (Nat.beq t T && Nat.beq tt TT && isPtr v) = q at hr
   cases q with
   | false => simp at hr
   | true =>
    simp only [cond_true] at hr
    simp only [Bool.and_eq_true] at hq
    obtain ⟨⟨e1, e2⟩, hp⟩ := hq
    obtain rfl := Nat.eq_of_beq_eq_true e1
    obtain rfl := Nat.eq_of_beq_eq_true e2
    split at hr
    ·rename_i cs hrow
     split at hr
     ·rename_i cs' hset
      simp at hr
      subst hr
      skip
      have h2 : xs.length = 2 := hargs.1
      obtain ⟨x, y, rfl⟩ : ∃ x y, xs = [x, y] := by
       match xs, h2 with
       | [x, y], _ => exact ⟨x, y, rfl⟩
      have hx := hargs.head
      have hy := hargs.tail.head
      have hvl : v.noLoc = true := by
       have := noLocL_mem.1 hnl (.iface t v) (by simp)
       simpa [V.noLoc] using this
      cases hx with
      | iface _ _ x hx =>
      cases hy with
      | iface _ _ y hy =>
      cases hy with
      | ptr _ _ b hb =>
      have hgrow : getRow st (.glob r) = some (.cells false cs) := hrow
      obtain ⟨e, rfl⟩ : ∃ e, x = .pointer (some e) := by
       cases v <;> simp [isPtr] at hp
       ·rename_i r' _; cases r' <;> simp at hp; cases hx; exact ⟨_, rfl⟩
       ·cases hx; exact ⟨_, rfl⟩
      have hone : RelL c [v] [Value.pointer (some e)] := RelL.cons hx (RelL.nil c)
      obtain ⟨_, _, hthere⟩ := hW.write hgrow hset hone hb
      have ht := hthere 0 (by simp)
      simp only [Nat.add_zero] at ht
      obtain ⟨old, hold⟩ := Option.isSome_iff_exists.1 ht.1
      refine (hA.hit e ⟨b, off, none⟩ old w (fun b o x hx => hW.shut b o x (hlaid b o x hx)) hold ht.2).mono (fun ev w' ⟨he, a1, t1, a2, t2, a3, t3, a4, t4, hw⟩ => ?_)
      subst he
      obtain ⟨c1, l1, W1, K1, _⟩ := hW.shutBlock a1 t1
      obtain ⟨c2, l2, W2, K2, _⟩ := W1.shutBlock a2 t2
      obtain ⟨c3, l3, W3, K3, _⟩ := W2.shutBlock a3 t3
      obtain ⟨c4, l4, W4, K4, _⟩ := W3.shutBlock a4 t4
      have hle := ((l1.trans l2).trans l3).trans l4
      obtain ⟨W5, K5, _⟩ := W4.write hgrow hset (hone.mono hle) (hle.blk hb)
      have hw' : w' = ((((w.alloc (.cells a1 t1)).alloc (.cells a2 t2)).alloc (.cells a3 t3)).alloc (.cells a4 t4)).setCells b off [.pointer (some e)] := hw
      rw [hw']
      exact ⟨c4, hle, .bool true, W5, (((K1.trans K2).trans K3).trans K4).trans K5, dirt_set (.glob r) (.cells false cs'), hp_set hH (r := .glob r) (fun frz cs2 e2 _ => by
       injection e2 with _ e3
       subst e3
       obtain ⟨hle2, hcs⟩ := setAt_spec hset
       rw [hcs, noLocL_mem]
       intro u hu
       simp only [List.mem_append, List.mem_singleton] at hu
       have hc := noLocL_mem.1 (hH r false cs hrow)
       rcases hu with (hu | hu) | hu
       ·exact hc u (List.mem_of_mem_take hu)
       ·rw [hu]; exact hvl
       ·exact hc u (List.mem_of_mem_drop hu))⟩
     ·simp at hr
    ·simp at hr
  ·simp at hr
end Go.AM
end

section
namespace Go.AM
open Go
abbrev Kn1 := CallF → List V → Hp → Option Out
structure KnownAt [Laid] (P : Program) (f : Nat) (k : Kn1) : Prop where
 still : ∀ call, CallStill call → CallStill (fun _ => k call)
 ok : ∀ call, CallStill call → CallOk P call → CallOk P (fun g args h => bif Nat.beq g f then k call args h else none)
theorem knownL [Laid] {P : Program} {l : List (Nat × Kn1)} (h : ∀ p ∈ l, KnownAt P p.1 p.2) : KnownOk P (S.lkL l) :=
 ⟨fun f k hk => (h _ (S.lkL_mem hk)).still, fun f k hk => (h _ (S.lkL_mem hk)).ok⟩
theorem known_as [Laid] {P : Program} {f T TT : Nat} (hA : AsOk P f T TT) : KnownAt P f (errAs T TT) :=
 ⟨fun call _ => errAs_still T TT call f, fun call _ _ => errAs_ok hA call⟩
def qL : List (Nat × Int × Int) → Nat → Int → Option Int
 | [], _, _ => none
 | (j, m, r) :: l, i, n => bif Nat.beq j i && F.eqI m n then some r else qL l i n
theorem qL_mem : ∀ {l : List (Nat × Int × Int)} {i : Nat} {n r : Int}, qL l i n = some r → (i, n, r) ∈ l
 | [], i, n, r, h => by simp [qL] at h
 | (j, m, r') :: l, i, n, r, h => by
  simp only [qL] at h
  generalize hb : (Nat.beq j i && F.eqI m n) = b at h
  cases b with
  | true =>
   simp only [Bool.and_eq_true] at hb
   have := Nat.eq_of_beq_eq_true hb.1
   subst this
   have h2 : m = n := by simpa [F.eqI_eq] using hb.2
   subst h2
   simp at h
   subst h; simp
  | false => exact List.mem_cons_of_mem _ (qL_mem (by simpa using h))
def place (l : List (Nat × Int × Int)) : Kn1 := fun _ args h => match args with
 | [.sym i, .int .i64 n] => (match qL l i n with
  | some r => some (.val (.int .i64 r) h)
  | none => none)
 | _ => none
def PlaceOk (P : Program) (f : Nat) : Prop := (∃ fn cd, P.funcs[f]? = some fn ∧ fn.body = some cd) ∧
 ∀ (a n : Int) (w : World), 0 < n → n < 4611686018427387904 → Calls P f #[.int .i64 a, .int .i64 n] w fun e w' => e = .returned (.int .i64 (a % n)) ∧ w' = w
theorem known_place [Laid] {P : Program} {f : Nat} {l : List (Nat × Int × Int)} (hP : PlaceOk P f)
  (hl : ∀ t ∈ l, 0 < t.2.1 ∧ t.2.1 < 4611686018427387904 ∧ (Laid.env t.1).1 = .i64 ∧ (Laid.env t.1).2 % t.2.1 = t.2.2) : KnownAt P f (place l) := by
 have key : ∀ call args h out, place l call args h = some out → ∃ i n r, args = [.sym i, .int .i64 n] ∧ (i, n, r) ∈ l ∧ out = .val (.int .i64 r) h := by
  intro call args h out hr
  unfold place at hr
  split at hr
  ·rename_i i n
   split at hr
   ·rename_i r hq
    simp at hr
    exact ⟨i, n, r, rfl, qL_mem hq, hr.symm⟩
   ·simp at hr
  ·simp at hr
 refine ⟨fun call _ g args h out hr => ?_, fun call _ _ g args h out hr c w st xs hst hW hH hargs hnl hlaid => ?_⟩
 ·obtain ⟨i, n, r, _, _, rfl⟩ := key call args h _ hr
  exact .refl _
 ·subst hst
  dsimp only at hr
  cases hg : Nat.beq g f with
  | false => rw [hg] at hr; simp at hr
  | true =>
   obtain rfl := Nat.eq_of_beq_eq_true hg
   rw [hg] at hr
   simp only [cond_true] at hr
   obtain ⟨i, n, r, rfl, hm, rfl⟩ := key call args _ _ hr
   refine ⟨hP.1, ?_⟩
   have h2 : xs.length = 2 := hargs.1
   obtain ⟨x, y, rfl⟩ : ∃ x y, xs = [x, y] := by
    match xs, h2 with
    | [x, y], _ => exact ⟨x, y, rfl⟩
   obtain ⟨k1, k2, k3, k4⟩ := hl _ hm
   have hx := hargs.head
   have hy := hargs.tail.head
   cases hx
   cases hy
   have k3 : (Laid.env i).1 = .i64 := k3
   have k4 : (Laid.env i).2 % n = r := k4
   rw [k3]
   refine (hP.2 (Laid.env i).2 n w k1 k2).mono (fun e w' ⟨he, hw⟩ => ?_)
   subst he; subst hw
   rw [k4]
   exact ⟨c, .refl c, .int _ _, hW, .refl c st _, .refl _, hH⟩
def cached (out : Out) : Kn1 := fun _ args h => match args, h with
 | [], ⟨[], none, 0⟩ => some out
 | _, _ => none
theorem known_cached [Laid] {P : Program} {f : Nat} {call0 : CallF} {v : V} (hS : CallOk P call0) (hr : call0 f [] noHp = some (.val v noHp)) : KnownAt P f (cached (.val v noHp)) := by
 have key : ∀ call args h out, cached (.val v noHp) call args h = some out → args = [] ∧ h = noHp ∧ out = .val v noHp := by
  intro call args h out hr
  unfold cached at hr
  split at hr
  ·simp at hr; exact ⟨rfl, rfl, hr.symm⟩
  ·simp at hr
 refine ⟨fun call _ g args h out hr => ?_, fun call _ _ g args h out hr' => ?_⟩
 ·obtain ⟨_, rfl, rfl⟩ := key call args h _ hr
  exact .refl _
 ·dsimp only at hr'
  cases hg : Nat.beq g f with
  | false => rw [hg] at hr'; simp at hr'
  | true =>
   obtain rfl := Nat.eq_of_beq_eq_true hg
   rw [hg] at hr'
   simp only [cond_true] at hr'
   obtain ⟨rfl, rfl, rfl⟩ := key call args h _ hr'
   exact hS g [] noHp _ hr
end Go.AM
end

section
namespace Go.AM
open Go
def lastDefer : List Oper → Option (List Oper × Oper × Call)
 | [] => none
 | [o] => match o.op, o.guard with
  | .defer c, none => some ([], o, c)
  | _, _ => none
 | o :: l => match lastDefer l with
  | some (p, q, c) => some (o :: p, q, c)
  | none => none
theorem lastDefer_spec : ∀ {l p : List Oper} {q : Oper} {c : Call}, lastDefer l = some (p, q, c) → l = p ++ [q] ∧ q.op = .defer c ∧ q.guard = none
 | [], p, q, c, h => by simp [lastDefer] at h
 | [o], p, q, c, h => by
  simp only [lastDefer] at h
  split at h
  ·rename_i c' h1 h2
   simp at h
   obtain ⟨rfl, rfl, rfl⟩ := h
   exact ⟨rfl, h1, h2⟩
  ·simp at h
 | o :: o2 :: l, p, q, c, h => by
  simp only [lastDefer] at h
  split at h
  ·rename_i p' q' c' h1
   simp at h
   obtain ⟨rfl, rfl, rfl⟩ := h
   obtain ⟨e1, e2, e3⟩ := lastDefer_spec h1
   exact ⟨by rw [e1]; rfl, e2, e3⟩
  ·simp at h
abbrev Dc := Option (Nat × List V)
section
variable (P : Program) (C : Cfg)
noncomputable def deferV (st : St) (c : Call) : Option (Nat × List V × St) := match c.callee with
 | .value f => (match F.opd (F.rho st) f with
  | .fn (.func g) first caps => (match F.exps false st (first ++ F.opds (F.rho st) c.args.toList ++ caps) with
   | some (l, st') => bif ((P.funcs[g]?).bind (·.body)).isSome then some (g, l, st') else none
   | none => none)
  | _ => none)
 | _ => none
noncomputable def codeD (call : CallF) (f : FuncId) (fuel : Nat) : Code → St → Option (Ex × St × Dc)
 | .region id ops false, st => (match lastDefer ops.toList with
  | none => (match F.regionV P C call f id ops false st with
   | some (ex, st') => some (ex, st', none)
   | none => none)
  | some (p, q, c) => (match F.opsV P C call (C.glob f) ops p st with
   | some (.normal, st1) => (match deferV P st1 c with
    | some (g, l, st2) => some (.normal, F.putV st2 q.dst (.tuple []), some (g, l))
    | none => none)
   | some (ex, st1) => some (ex, st1, none)
   | none => none))
 | .seq a b, st => (match codeD call f fuel a st with
  | some (.normal, st', none) => codeD call f fuel b st'
  | some (.normal, st', some d) => (match F.codeV P C call f fuel b st' with
   | some (ex, st'') => some (ex, st'', some d)
   | none => none)
  | r => r)
 | cd, st => (match F.codeV P C call f fuel cd st with
  | some (ex, st') => some (ex, st', none)
  | none => none)
end
section
variable {D : List Deferred} {P : Program} {C : Cfg} {c0 c e : Ctx} {st0 st st' : St} {w0 w w' : World} {a : Act} {n : Nat} {gl : Nat → Bool}
structure Df [Laid] (P : Program) (c : Ctx) (g : Nat) (l : List V) (df : Deferred) (xs : List Value) : Prop where
 fn : ∃ fv cap, df.target = .fn fv cap
 run : ∀ w, (invoke df.target df.args).run P w = .ok (.enter g xs.toArray) w
 rel : RelL c l xs
 noLoc : V.noLocL l = true
def SimD [Laid] (P : Program) (n : Nat) (c0 : Ctx) (st0 : St) (w0 : World) (st : St) (a : Act) (w : World) (c : Ctx) : Dc → Prop
 | none => Sim [] n c0 st0 w0 st a w c
 | some (g, l) => ∃ df xs, Sim [df] n c0 st0 w0 st a w c ∧ Df P c g l df xs
theorem opsV_ahead [Laid] (hN : Named P) {call : CallF} (hC : CallOk P call) {ops : Array Oper} (hd : ∀ o ∈ ops.toList, dstOk n o = true) (l2 : List Nat) :
  ∀ (l : List Nat) (st : St) (a : Act) (w : World) (c : Ctx) (ex : Ex) (st' : St), Sim D n c0 st0 w0 st a w c → opsV P C call gl ops (l.filterMap (ops[·]?)) st = some (ex, st') →
   ∀ (Q : Exit → Act → World → Prop), (ex = .normal → ∀ a' w' c', Sim D n c0 st0 w0 st' a' w' c' → wpOps P ops Q l2 a' w') →
    (∀ e a' w' c', ex ≠ .normal → exIs c' ex e → Sim D n c0 st0 w0 st' a' w' c' → Q e a' w') → wpOps P ops Q (l ++ l2) a w
 | [], st, a, w, c, ex, st', h, hr, Q, hK, hQ => by
  simp [opsV] at hr
  obtain ⟨rfl, rfl⟩ := hr
  exact hK rfl _ _ _ h
 | i :: l, st, a, w, c, ex, st', h, hr, Q, hK, hQ => by
  cases hi : ops[i]? with
  | none =>
   simp only [List.filterMap_cons, hi] at hr
   simp only [List.cons_append, wpOps, hi]
   exact opsV_ahead hN hC hd l2 l st a w c ex st' h hr Q hK hQ
  | some o =>
   simp only [List.filterMap_cons, hi, opsV] at hr
   have hmem : o ∈ ops.toList := by
    rw [List.mem_iff_getElem?]
    exact ⟨i, by simpa using hi⟩
   have hdo := hd o hmem
   have hdst : ∀ i, o.dst = some i → i < n := fun i hi => by
    unfold dstOk at hdo; rw [hi] at hdo; simpa [Nat.blt_eq] using hdo
   split at hr
   ·simp at hr
   ·rename_i hw
    have hw' := wanted_sound h.slots hw
    have hsim := h.put (d := o.dst) (Ctx.le.refl c) h.wrel (Keep.refl c st w) (.refl _) h.hp rfl hdst (v := .tuple []) (x := undef) (Rel.mk_tuple (RelL.nil c))
    simp only [List.cons_append, wpOps, hi, hw', if_false, Bool.false_eq_true]
    exact opsV_ahead hN hC hd l2 l _ _ w c ex st' hsim hr Q hK hQ
   ·rename_i hw
    have hw' := wanted_sound h.slots hw
    simp only [List.cons_append, wpOps, hi, hw', if_true]
    split at hr
    ·rename_i st1 hone
     have k := oneV_sound hN hC h hdo hone
     exact .inl (k _ Q (fun _ a' w' c' hs => opsV_ahead hN hC hd l2 l st1 a' w' c' ex st' hs hr Q hK hQ) (fun e a' w' c' hne => absurd rfl hne))
    ·rename_i r hne
     have k := oneV_sound hN hC h hdo hr
     have hex : ex ≠ .normal := fun e => by subst e; exact hne st' hr
     exact .inl (k _ Q (fun e => absurd e hex) (fun e a' w' c' _ he hs => hQ e a' w' c' hex he hs))
theorem deferV_sound [Laid] (hN : Named P) (h : WRel c st w) (hs : Slots c st.ρ a) {o : Oper} {cl : Call} (ho : o.op = .defer cl) {g : Nat} {l : List V} (hr : deferV P st cl = some (g, l, st')) :
  ∃ c' df xs, (execOp a.eval o).run P w = .ok (.defer df) w ∧ Df P c' g l df xs ∧ c.le c' ∧ WRel c' st' w ∧ Keep c c' st st' w w ∧ Dirt st.hp st'.hp ∧ st'.tm = st.tm := by
 unfold deferV at hr
 rw [F.e_opd, F.e_rho, F.e_exps, F.e_opds] at hr
 have hargs : RelL c (opds st.ρ cl.args.toList) (cl.args.map a.eval).toList := by simpa using opds_rel hs cl.args.toList
 split at hr
 ·rename_i f hcal
  split at hr
  ·rename_i g' first caps hf
   have hfr := opd_rel hs f
   rw [hf] at hfr
   split at hr
   ·rename_i l' st1 hexp
    have hg : ∃ fn cd, P.funcs[g']? = some fn ∧ fn.body = some cd := by
     cases h1 : P.funcs[g']? with
     | none => simp [h1] at hr
     | some fn =>
      cases h2 : fn.body with
      | none => simp [h1, h2] at hr
      | some cd => exact ⟨fn, cd, rfl, h2⟩
    generalize ((P.funcs[g']?).bind (·.body)).isSome = qb at hr
    cases qb with
    | false => simp at hr
    | true =>
    simp only [cond_true, Option.some.injEq, Prod.mk.injEq] at hr
    obtain ⟨rfl, rfl, rfl⟩ := hr
    generalize hev : a.eval f = fv at hfr
    cases hfr with
    | fn _ _ _ xa xb ha hb hra hrb =>
     have r1 : RelL c first xa.toList := ⟨by simpa using ha, fun i v x p q => hra i v x p (by simpa using q)⟩
     have r2 : RelL c caps xb.toList := ⟨by simpa using hb, fun i v x p q => hrb i v x p (by simpa using q)⟩
     obtain ⟨c', k⟩ := exps_sound (fz := false) _ c st _ l' st1 h (RelL.append (RelL.append r1 hargs) r2) hexp
     obtain ⟨fn, cd, h1, h2⟩ := hg
     have hnm := hN g' fn h1
     have hnm2 : ¬ (fn.name = "runtime.NumGoroutine") := by simpa using hnm
     refine ⟨c', { target := .fn (.func g') xb, args := xa ++ cl.args.map a.eval }, _, ?_, ⟨⟨_, _, rfl⟩, fun w2 => ?_, k.rel, k.noLoc⟩, k.le, k.wrel, k.keep, k.dirt, k.tm⟩
     ·simp only [execOp, ho, resolve, hcal, hev]
      simp [Deferred.ofValue]
     ·simp [invoke, callFunc, h1, hnm2, h2]
   ·simp at hr
  ·simp at hr
 ·simp at hr
theorem codeD_sound [Laid] (hN : Named P) (hM : P.follows .mixedOrders = true) {call : CallF} (hS : CallStill call) (hC : CallOk P call) (f fuel : Nat) : ∀ (cd : Code), Code.good C f n cd = true →
  ∀ (st : St) (a : Act) (w : World) (c : Ctx) (ex : Ex) (st' : St) (d : Dc), Sim [] n c0 st0 w0 st a w c → codeD P C call f fuel cd st = some (ex, st', d) →
   cd.wp P (fun e a' w' => ∃ c', exIs c' ex e ∧ SimD P n c0 st0 w0 st' a' w' c' d) a w := by
 intro cd
 have plain : ∀ cd : Code, Code.good C f n cd = true → ∀ (st : St) (a : Act) (w : World) (c : Ctx) (ex : Ex) (st' : St) (d : Dc), Sim [] n c0 st0 w0 st a w c →
   (match F.codeV P C call f fuel cd st with
    | some (ex, st') => some (ex, st', (none : Dc))
    | none => none) = some (ex, st', d) → cd.wp P (fun e a' w' => ∃ c', exIs c' ex e ∧ SimD P n c0 st0 w0 st' a' w' c' d) a w := by
  intro cd hg st a w c ex st' d h hr
  rw [F.e_codeV] at hr
  split at hr
  ·rename_i ex1 st1 hrun
   simp only [Option.some.injEq, Prod.mk.injEq] at hr
   obtain ⟨rfl, rfl, rfl⟩ := hr
   exact wp_mono (codeV_sound hN hM hS hC f fuel cd hg _ _ _ _ _ _ h hrun) (fun e a' w' ⟨c1, k1, k2⟩ => ⟨c1, k1, k2⟩)
  ·simp at hr
 induction cd with
 | region id ops draw =>
  intro hg st a w c ex st' d h hr
  cases draw with
  | true => exact plain _ hg st a w c ex st' d h hr
  | false =>
   simp only [codeD] at hr
   split at hr
   ·exact plain _ hg st a w c ex st' d h hr
   ·rename_i p q cl hlast
    obtain ⟨e1, e2, e3⟩ := lastDefer_spec hlast
    have hdst : ∀ o ∈ ops.toList, dstOk n o = true := by
     simp only [Code.good, Bool.and_eq_true] at hg
     exact fun o ho => List.all_eq_true.1 hg.1 o ho
    have hsz : ops.size = p.length + 1 := by
     have := congrArg List.length e1
     simpa using this
    have hrange : List.range ops.size = List.range p.length ++ [p.length] := by rw [hsz, List.range_succ]
    have hat : ∀ j, j < p.length → ops[j]? = p[j]? := fun j hj => by
     have : ops.toList[j]? = (p ++ [q])[j]? := by rw [e1]
     rw [List.getElem?_append_left hj] at this
     simpa using this
    have hq : ops[p.length]? = some q := by
     have : ops.toList[p.length]? = (p ++ [q])[p.length]? := by rw [e1]
     simpa using this
    have hpre : (List.range p.length).filterMap (ops[·]?) = p := by
     have gen : ∀ l : List Nat, (∀ j ∈ l, j < p.length) → l.filterMap (ops[·]?) = l.filterMap (p[·]?) := by
      intro l
      induction l with
      | nil => intro _; rfl
      | cons j l ih =>
       intro hl
       rw [List.filterMap_cons, List.filterMap_cons, hat j (hl j (by simp)), ih (fun k hk => hl k (by simp [hk]))]
     rw [gen _ (fun j hj => by simpa using hj)]
     have := filterMap_range' p []
     simpa [List.range_eq_range'] using this
    rw [F.e_opsV] at hr
    have ahead := fun (ex1 : Ex) (st1 : St) (hrun : opsV P C call (C.glob f) ops p st = some (ex1, st1)) =>
     opsV_ahead (D := []) (gl := C.glob f) hN hC hdst [p.length] (List.range p.length) st a w c ex1 st1 h (by rw [hpre]; exact hrun)
    split at hr
    ·rename_i st1 hrun
     split at hr
     ·rename_i g l st2 hdf
      simp only [Option.some.injEq, Prod.mk.injEq] at hr
      obtain ⟨rfl, rfl, rfl⟩ := hr
      refine wp_region ?_
      rw [hrange]
      refine ahead _ _ hrun _ (fun _ a' w' c' hs => ?_) (fun e a' w' c' hne => absurd rfl hne)
      have hqd : ∀ i, q.dst = some i → i < n := fun i hi => by
       have := hdst q (by rw [e1]; simp)
       unfold dstOk at this; rw [hi] at this; simpa [Nat.blt_eq] using this
      obtain ⟨c2, df, xs, k1, k2, k3, k4, k5, k6, k7⟩ := deferV_sound hN hs.wrel hs.slots e2 hdf
      have hH : HpOk st2.hp := by
       unfold deferV at hdf
       rw [F.e_opd, F.e_rho, F.e_exps, F.e_opds] at hdf
       split at hdf
       ·split at hdf
        ·split at hdf
         ·rename_i hexp
          generalize Option.isSome _ = qb at hdf
          cases qb with
          | false => simp at hdf
          | true =>
           simp only [cond_true, Option.some.injEq, Prod.mk.injEq] at hdf
           rw [← hdf.2.2]
           exact (exps_hp _ _ _ _ hs.hp hexp).1
         ·simp at hdf
        ·simp at hdf
       ·simp at hdf
      have hsim := hs.put (d := q.dst) k3 k4 k5 k6 hH k7 hqd (v := .tuple []) (x := undef) (Rel.mk_tuple (RelL.nil c2))
      rw [F.e_putV]
      have hw1 : Region.wanted q (yielded ops a'.tmps) = true := by unfold Region.wanted; rw [e3]
      simp only [wpOps, hq, hw1, if_true]
      left
      unfold Oper.wp
      rw [k1]
      refine ⟨c2, trivial, df, xs, ?_, k2⟩
      refine ⟨hsim.le, hsim.wrel, ?_, ?_, ?_, hsim.keep, hsim.dirt, hsim.hp, hsim.laid⟩
      ·have := hsim.slots
       cases hqq : q.dst <;> (rw [hqq] at this; exact this)
      ·have := hsim.size
       cases hqq : q.dst <;> (rw [hqq] at this; exact this)
      ·have h9 : a'.defers = [] := hs.defers
       cases hqq : q.dst <;> simp [Act.put, h9]
     ·simp at hr
    ·rename_i ex1 st1 hne hrun
     simp only [Option.some.injEq, Prod.mk.injEq] at hr
     obtain ⟨e4, e5, e6⟩ := hr
     subst e4; subst e5; subst e6
     refine wp_region ?_
     rw [hrange]
     have hex : ex1 ≠ .normal := fun e => by subst e; exact hne rfl
     exact ahead _ _ hrun _ (fun e => absurd e hex) (fun e a' w' c' _ he hs => ⟨c', he, hs⟩)
    ·simp at hr
 | seq x y ihx ihy =>
  intro hg st a w c ex st' d h hr
  simp only [Code.good, Bool.and_eq_true] at hg
  simp only [codeD] at hr
  split at hr
  ·rename_i st1 hx
   refine wp_seq (wp_mono (ihx hg.1 st a w c .normal st1 none h hx) (fun e a' w' k => ?_))
   obtain ⟨c1, k1, k2⟩ := k
   cases e with
   | normal => exact ihy hg.2 st1 a' w' c1 ex st' d k2 hr
   | _ => exact k1.elim
  ·rename_i st1 d1 hx
   rw [F.e_codeV] at hr
   split at hr
   ·rename_i ex2 st2 hy
    simp only [Option.some.injEq, Prod.mk.injEq] at hr
    obtain ⟨e4, e5, e6⟩ := hr
    subst e4; subst e5; subst e6
    refine wp_seq (wp_mono (ihx hg.1 st a w c .normal st1 (some d1) h hx) (fun e a' w' k => ?_))
    obtain ⟨c1, k1, k2⟩ := k
    cases e with
    | normal =>
     obtain ⟨g, l⟩ := d1
     obtain ⟨df, xs, k3, k4⟩ := k2
     refine wp_mono (codeV_sound (D := [df]) (c0 := c1) (st0 := st1) (w0 := w') hN hM hS hC f fuel y hg.2 st1 a' w' c1 ex2 st2 ⟨.refl _, k3.wrel, k3.slots, k3.size, k3.defers, .refl _ _ _, .refl _, k3.hp, k3.laid⟩ hy) (fun e a2 w2 k => ?_)
     obtain ⟨c2, m1, m2⟩ := k
     exact ⟨c2, m1, df, xs, ⟨k3.le.trans m2.le, m2.wrel, m2.slots, m2.size, m2.defers, k3.keep.trans m2.keep, k3.dirt.trans m2.dirt, m2.hp, m2.laid⟩, k4.fn, k4.run, k4.rel.mono m2.le, k4.noLoc⟩
    | _ => exact k1.elim
   ·simp at hr
  ·rename_i r hne1 hne2
   refine wp_seq (wp_mono (ihx hg.1 st a w c ex st' d h hr) (fun e a' w' k => ?_))
   obtain ⟨c1, k1, k2⟩ := k
   cases e with
   | normal =>
    cases ex with
    | normal =>
     cases d with
     | none => exact absurd hr (hne1 st')
     | some d => exact absurd hr (hne2 st' d)
    | _ => exact k1.elim
   | _ => exact ⟨c1, k1, k2⟩
 | _ => intro hg st a w c ex st' d h hr; exact plain _ hg st a w c ex st' d h hr
end
end Go.AM
end
