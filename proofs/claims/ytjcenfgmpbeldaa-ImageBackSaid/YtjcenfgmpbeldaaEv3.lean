/-
  An evaluator of the code of the model, in Option, and the proof that what it answers is what a call comes to, for whatever program: part Ev3. No condition.
-/
import Derived.Test.YtjcenfgmpbeldaaEv2
namespace Go.Ev
open Go
section
variable {β : Type}

/-- integers -/
def binI (op : BinOp) (k : IntKind) (a b : Int) (K : Value → Option β) : Option β :=
  match op with
  | .add => K (.int k (k.wrap (a + b)))
  | .sub => K (.int k (k.wrap (a - b)))
  | .mul => K (.int k (k.wrap (a * b)))
  | .quo => if b = 0 then none else K (.int k (k.wrap (a.tdiv b)))
  | .rem => if b = 0 then none else K (.int k (a.tmod b))
  | .and => K (.int k (k.wrap ((BitVec.ofInt k.bits a &&& BitVec.ofInt k.bits b).toNat)))
  | .or => K (.int k (k.wrap ((BitVec.ofInt k.bits a ||| BitVec.ofInt k.bits b).toNat)))
  | .xor => K (.int k (k.wrap ((BitVec.ofInt k.bits a ^^^ BitVec.ofInt k.bits b).toNat)))
  | .andNot => K (.int k (k.wrap ((BitVec.ofInt k.bits a &&& ~~~ BitVec.ofInt k.bits b).toNat)))
  | .eql => K (.bool (a == b))
  | .neq => K (.bool (a != b))
  | .lss => K (.bool (decide (a < b)))
  | .leq => K (.bool (decide (a ≤ b)))
  | .gtr => K (.bool (decide (a > b)))
  | .geq => K (.bool (decide (a ≥ b)))
  | _ => none

/-- shifts -/
def shI (op : BinOp) (k : IntKind) (a b : Int) (K : Value → Option β) : Option β :=
  if b < 0 then none else
  match op with
  | .shl => K (.int k (k.wrap (a * 2 ^ (min b.toNat k.bits))))
  | .shr => K (.int k (a.fdiv (2 ^ (min b.toNat k.bits))))
  | _ => none

def binS (op : BinOp) (a b : ByteArray) (K : Value → Option β) : Option β :=
  match op with
  | .add => if ((a.size + b.size : Nat) : Int) > IntKind.i64.max then none else K (.string (a ++ b))
  | .eql => K (.bool (a.toList == b.toList))
  | .neq => K (.bool !(a.toList == b.toList))
  | .lss => K (.bool (Op.bytesLess a.toList b.toList))
  | .leq => K (.bool (Op.bytesLess a.toList b.toList || a.toList == b.toList))
  | .gtr => K (.bool !(Op.bytesLess a.toList b.toList || a.toList == b.toList))
  | .geq => K (.bool !(Op.bytesLess a.toList b.toList))
  | _ => none

/-- what a comparison with nil (or of two bools) comes to; the rest by the model's own word -/
def evBin (P : Program) (op : BinOp) (t : TypeId) (xo yo : Operand) (x y : Value) (w : World) (K : Value → World → Option β) : Option β :=
  match x, y with
  | .int k a, .int yk b =>
    match op with
    | .shl => shI .shl k a b fun v => K v w
    | .shr => shI .shr k a b fun v => K v w
    | op => if k = yk then binI op k a b fun v => K v w else none
  | .string a, .string b => binS op a b fun v => K v w
  | .bool a, .bool b =>
    match P.underlying t, op with
    | some .bool, .eql => K (.bool (a == b)) w
    | some .bool, .neq => K (.bool (!(a == b))) w
    | _, _ => none
  | .pointer a, .pointer none =>
    match P.underlying t, op with
    | some (.pointer _), .eql => K (.bool a.isNone) w
    | some (.pointer _), .neq => K (.bool (!a.isNone)) w
    | _, _ => none
  | .slice a _ _, .slice none _ _ =>
    match P.underlying t, op with
    | some (.slice _), .eql => K (.bool a.isNone) w
    | some (.slice _), .neq => K (.bool (!a.isNone)) w
    | _, _ => none
  | x, y => (semR P (do eqGuard op t xo yo x y; binOp op t x y) w).bind fun r => (asB r.1).bind fun b => K (.bool b) r.2

def unI (op : UnOp) (x : Value) (K : Value → Option β) : Option β :=
  match op, x with
  | .neg, .int k n => K (.int k (k.wrap (0 - n)))
  | .xor, .int k n => binI .xor k (if k.signed = true then -1 else k.max) n K
  | .not, .bool b => K (.bool !b)
  | _, _ => none

def intK : Option TypeDesc → Option IntKind
  | some (.int k) => some k
  | _ => none

def evConv (P : Program) (s d : TypeId) (x : Value) (w : World) (K : Value → World → Option β) : Option β :=
  match x, P.underlying s, P.underlying d with
  | .int _ n, some _, some (.int k) => K (.int k (k.wrap n)) w
  | x, _, _ => (semR P (convert s d x) w).bind fun r => castV P d r.1 fun v => K v r.2

def loadT (P : Program) (t : TypeId) (w : World) (a : Addr) (K : Value → Option β) : Option β :=
  match P.underlying t with
  | some (.struct _) => (ldN w a 0 ((P.info? t).map (·.size) |>.getD 0)).bind fun l =>
      if (leaves P 8 t).length = ((P.info? t).map (·.size) |>.getD 0) then castList P l 0 (leaves P 8 t) fun vs => K (.agg vs.toArray) else none
  | some (.array _ _) => (ldN w a 0 ((P.info? t).map (·.size) |>.getD 0)).bind fun l => K (.agg l.toArray)
  | some _ => (w.cell? a).bind fun v => castLeaf P t v K
  | none => none

def storeT (P : Program) (t : TypeId) (w : World) (a : Addr) (v : Value) (K : World → Option β) : Option β :=
  match P.info? t with
  | none => none
  | some i =>
    match v with
    | .agg cs => if cs.size = i.size then (stL w a cs.toList 0).bind K else none
    | v => if i.size = 1 then (st1 w a v).bind K else none

def sizeT (P : Program) (t : TypeId) : Nat := ((P.info? t).map (·.size)).getD 0

def evNil (x : Value) (w : World) (K : Value → World → Option β) : Option β :=
  match x with
  | .pointer p => p.bind fun a => K (.pointer (some a)) w
  | .func (.func f) a b => K (.func (.func f) a b) w
  | _ => none

def evFieldA (P : Program) (s : TypeId) (x : Value) (f : Nat) (K : Value → Option β) : Option β :=
  match P.underlying s, x with
  | some (.struct fs), .pointer (some a) =>
    match fs[f]? with
    | some fd => if sizeT P fd.type = 0 then none else (match P.info? fd.type with | some _ => K (.pointer (some (a.add fd.offset))) | none => none)
    | none => none
  | _, _ => none

def evField (P : Program) (s : TypeId) (x : Value) (f : Nat) (K : Value → Option β) : Option β :=
  match P.underlying s, x with
  | some (.struct fs), .agg cs =>
    match fs[f]? with
    | some fd =>
      match P.underlying fd.type, P.info? fd.type with
      | some (.struct _), some i | some (.array _ _), some i => K (.agg (cs.extract fd.offset (fd.offset + i.size)))
      | some _, some _ => (cs[fd.offset]?).bind K
      | _, _ => none
    | none => none
  | _, _ => none

def evIdxA (P : Program) (t : TypeId) (x i : Value) (K : Value → Option β) : Option β :=
  match P.underlying t, x, i with
  | some (.slice e), .slice base len _, .int _ n => (match P.info? e with | some inf => (idxA base len inf.size n).bind fun a => K (.pointer (some a)) | none => none)
  | some (.array len e), .pointer (some a), .int _ n => (match P.info? e with | some inf => (idxA (some a) len inf.size n).bind fun a => K (.pointer (some a)) | none => none)
  | _, _, _ => none

def evIndex (P : Program) (t : TypeId) (x i : Value) (w : World) (K : Value → World → Option β) : Option β :=
  match P.underlying t, x, i with
  | some .string, .string s, .int _ n => (strIdx s n).bind fun c => K (.int .u8 c) w
  | some (.array _ e), .agg cs, i => (semR P (Instr.index t (.agg cs) i) w).bind fun r => castV P e r.1 fun v => K v r.2
  | _, _, _ => none

def evSlice (P : Program) (t : TypeId) (x : Value) (lo hi mx : Option Value) (K : Value → Option β) : Option β :=
  (optI lo).bind fun l => (optI hi).bind fun h => (optI mx).bind fun m =>
  if mx.isSome = true ∧ hi.isSome = false then none else
  match P.underlying t, x with
  | some .string, .string s => if mx.isSome = true then none else (strSlc s l h).bind fun s => K (.string s)
  | some (.slice e), .slice a len cap => (match P.info? e with | some inf => (slc a len cap inf.size l h m).bind fun r => K (.slice r.1 r.2.1 r.2.2) | none => none)
  | some (.array n e), .pointer (some a) => (match P.info? e with | some inf => (slc (some a) n n inf.size l h m).bind fun r => K (.slice r.1 r.2.1 r.2.2) | none => none)
  | _, _ => none

def evLookup (P : Program) (t : TypeId) (x k : Value) (ok : Bool) (w : World) (K : Value → Option β) : Option β :=
  match P.underlying t, x with
  | some (.map kt e), .map m =>
    match P.underlying kt with
    | some d => if plainKey d = true then
        (match zc P e with
        | some z => (mLook d w m k).bind fun o => castV P e (o.getD z) fun v => K (if ok = true then .tuple #[v, .bool o.isSome] else v)
        | none => none)
      else none
    | none => none
  | _, _ => none

def evMapUpd (P : Program) (t : TypeId) (x k v : Value) (w : World) (K : World → Option β) : Option β :=
  match P.underlying t, x with
  | some (.map kt _), .map m =>
    match P.underlying kt with
    | some d => if plainKey d = true then (mUpd d w m k v).bind K else none
    | none => none
  | _, _ => none

def evBuild (P : Program) (t : TypeId) (parts : Array (Nat × Value)) (K : Value → Option β) : Option β :=
  match P.underlying t, zc P t with
  | some (.struct fs), some z =>
    if (fs.all fun f => (P.info? f.type).isSome) = true then
      (Instr.fill ((fs.map fun f => (f.offset, sizeT P f.type))[·]?) z.cells parts.toList).bind fun cells => K (.agg cells)
    else none
  | some (.array _ e), some z =>
    if (P.info? e).isSome = true then
      (Instr.fill (fun i => some (i * sizeT P e, sizeT P e)) z.cells parts.toList).bind fun cells => K (.agg cells)
    else none
  | _, _ => none

def evBuildS (P : Program) (t : TypeId) (len : Nat) (parts : Array (Nat × Value)) (w : World) (K : Value → World → Option β) : Option β :=
  match P.underlying t with
  | some (.slice e) =>
    match P.info? e, zc P e with
    | some i, some z =>
      if len * i.size > 2 ^ 24 then none else
      (Instr.fill (fun j => some (j * i.size, i.size)) ((Array.range (len * i.size)).map (z.cells[· % z.cells.size]!)) parts.toList).bind fun cells =>
        K (.slice (some ⟨w.heap.size, 0, none⟩) len len) (w.alloc (.cells cells e))
    | _, _ => none
  | _ => none

/-- the zero cells of a new row -/
def zrow (z : Value) (n : Nat) : Array Value := (Array.range n).map (z.cells[· % z.cells.size]!)

def evMakeS (P : Program) (t : TypeId) (l c : Value) (w : World) (K : Value → World → Option β) : Option β :=
  match P.underlying t, l, c with
  | some (.slice e), .int _ l, .int _ c =>
    match P.info? e, zc P e with
    | some i, some z =>
      if 0 ≤ l ∧ l ≤ c ∧ c < 9223372036854775808 ∧ (i.bytes : Int) * c ≤ 2 ^ 48 ∧ 0 < i.size then
        K (.slice (some ⟨w.heap.size, 0, none⟩) l.toNat c.toNat) (w.alloc (.cells (zrow z (c.toNat * i.size)) e))
      else none
    | _, _ => none
  | _, _, _ => none

noncomputable def evCall (P : Program) (ρ : Operand → Value) (c : Call) (t : TypeId) (w : World) (K : Value → World → Option β) : Option β :=
  match c.callee with
  | .value f =>
    match ρ f with
    | .func (.func g) first captured => (callF P g (first ++ c.args.map ρ ++ captured) w).bind fun r => castT P t r.1 fun v => K v r.2
    | v => (callV P v (c.args.map ρ) w).bind fun r => castT P t r.1 fun v => K v r.2
  | .builtin b =>
    match b, (c.args.map ρ).toList, (c.argTypes[0]?).bind P.underlying with
    | .len, [.slice _ n _], some (.slice _) => K (.int .i64 n) w
    | .len, [.string s], some .string => K (.int .i64 s.size) w
    | .len, [.map m], some (.map _ _) => (mLen w m).bind fun n => K (.int .i64 n) w
    | .len, [x], some (.array n _) => (fun _ => K (.int .i64 n) w) x
    | .cap, [.slice _ _ n], some (.slice _) => K (.int .i64 n) w
    | .min, [.int k x, .int _ y], _ => K (.int k (if y < x then y else x)) w
    | .max, [.int k x, .int _ y], _ => K (.int k (if y > x then y else x)) w
    | b, _, _ => (callB P b c.argTypes t (c.args.map fun | .const _ => true | _ => false) (c.args.map ρ) w).bind fun r => castT P t r.1 fun v => K v r.2
  | .invoke recv name => (nextR P (Sem.run P (do let d ← resolve ρ { callee := .invoke recv name, args := c.args, argTypes := c.argTypes } t; invoke d.target d.args) w)).bind fun r => castT P t r.1 fun v => K v r.2

/-- what an iterator answers: that it is over, or a key and a value -/
def asNext : Value → Option (Option (Value × Value))
  | .tuple ⟨[.bool false]⟩ => some none
  | .tuple ⟨[.bool true, k, v]⟩ => some (some (k, v))
  | _ => none

def onNext (o : Option (Value × Value)) (a : Option β) (b : Value → Value → Option β) : Option β :=
  match o with
  | none => a
  | some q => b q.1 q.2

/-- one operation -/
noncomputable def evOp (P : Program) (ρ : Operand → Value) (o : Op) (t0 : TypeId) (w : World) (K : Value → World → Option β) : Option β :=
  match o with
  | .move x => K (ρ x) w
  | .assign x => K (ρ x) w
  | .pick c a b => match ρ c with
    | .bool t => if t = true then K (ρ a) w else K (ρ b) w
    | _ => none
  | .alloc e => match zc P e with
    | some z => K (.pointer (some ⟨w.heap.size, 0, none⟩)) (w.alloc (.cells z.cells e))
    | none => none
  | .box e x => K (.pointer (some ⟨w.heap.size, 0, none⟩)) (w.alloc (.cells (ρ x).cells e))
  | .build t parts => evBuild P t (parts.map fun (i, x) => (i, ρ x)) fun v => K v w
  | .buildSlice t n parts => evBuildS P t n (parts.map fun (i, x) => (i, ρ x)) w K
  | .load t a => match ρ a with
    | .pointer (some ad) => loadT P t w ad fun v => K v w
    | _ => none
  | .store t a x => match ρ a with
    | .pointer (some ad) => storeT P t w ad (ρ x) fun w => K undef w
    | _ => none
  | .nilCheck x => evNil (ρ x) w K
  | .binOp op t x y _ => evBin P op t x y (ρ x) (ρ y) w K
  | .unOp op _ x => unI op (ρ x) fun v => K v w
  | .convert s d x => evConv P s d (ρ x) w K
  | .fieldAddr s x f => evFieldA P s (ρ x) f fun v => K v w
  | .field s x f => evField P s (ρ x) f fun v => K v w
  | .indexAddr t x i => evIdxA P t (ρ x) (ρ i) fun v => K v w
  | .index t x i => evIndex P t (ρ x) (ρ i) w K
  | .slice t x lo hi mx => evSlice P t (ρ x) (lo.map ρ) (hi.map ρ) (mx.map ρ) fun v => K v w
  | .lookup t x i ok => evLookup P t (ρ x) (ρ i) ok w fun v => K v w
  | .mapUpdate t m k x => evMapUpd P t (ρ m) (ρ k) (ρ x) w fun w => K undef w
  | .insert t m k x => evMapUpd P t (ρ m) (ρ k) (ρ x) w fun w => K undef w
  | .makeMap _ none => K (.map (some w.heap.size)) (w.alloc (.map #[] 0))
  | .makeSlice t l c => evMakeS P t (ρ l) (ρ c) w K
  | .makeFunc fn a b => K (.func fn (a.map ρ) (b.map ρ)) w
  | .makeInterface t x => match P.underlying t with
    | some (.interface _) => none
    | some _ => K (.iface t (ρ x)) w
    | none => none
  | .extract t i => match ρ t with
    | .tuple vs => (vs[i]?).bind fun v => castT P t0 v fun v => K v w
    | _ => none
  | .range t x => (semR P (Instr.range t (ρ x)) w).bind fun r => (asP r.1).bind fun p => K (.pointer p) r.2
  | .next it s => (semR P (Instr.next (ρ it) s t0) w).bind fun r => (asNext r.1).bind fun o => onNext o (K (.tuple #[.bool false]) r.2) fun k v => K (.tuple #[.bool true, k, v]) r.2
  | .entry it => (semR P (Instr.entry (ρ it)) w).bind fun r => (asTup 2 r.1).bind fun l => K (.tuple #[l.getD 0 undef, l.getD 1 undef]) r.2
  | .mapEntry t m k => (semR P (Instr.mapEntry t (ρ m) (ρ k)) w).bind fun r => K r.1 r.2
  | .entryStore t m s x => (semR P (do Instr.entryStore t (ρ m) (ρ s) (ρ x); pure undef) w).bind fun r => K r.1 r.2
  | .typeAssert x xt at_ ok => (semR P (Instr.typeAssert (ρ x) xt at_ ok) w).bind fun r => castT P t0 r.1 fun v => K v r.2
  | .call c => evCall P ρ c t0 w K
  | _ => none
end
end Go.Ev
