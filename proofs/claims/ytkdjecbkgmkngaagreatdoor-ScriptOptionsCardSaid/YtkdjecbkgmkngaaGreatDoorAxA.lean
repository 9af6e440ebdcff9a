/-
  The evaluator of the model's code over an abstract heap, and what its operations that read are worth over a related world.
-/
import Derived.Defers
import Derived.Laws.Cells
import Derived.Laws.IdiomCopy
import Derived.Orders
import Derived.Laws.Entries
import Derived.KernelRfl
set_option linter.unusedSectionVars false
set_option linter.unusedSimpArgs false
set_option linter.unusedVariables false
/- An evaluator of the model's code over an abstract heap: block numbers are its own, capacities are forgotten. It answers only where the answer hangs on no tape. -/
namespace Go.AX
noncomputable section

/-- a radix tree -/
inductive T (α : Type) where
  | e
  | n (l : T α) (v : Option α) (r : T α)

/-- (written with the recursors: the kernel runs it so in a quarter of the time) -/
def T.get {α : Type} (t : T α) : Nat → Option α :=
  T.rec (motive := fun _ => Nat → Option α) (fun _ => none) (fun _ v _ gl gr i => Nat.rec (motive := fun _ => Option α) v (fun j _ => Nat.rec (motive := fun _ => Option α) (gl (Nat.div j 2)) (fun _ _ => gr (Nat.div j 2)) (Nat.mod j 2)) i) t

def T.set {α : Type} (f : Nat) : T α → Nat → Option α → T α :=
  Nat.rec (motive := fun _ => T α → Nat → Option α → T α) (fun t _ _ => t)
    (fun _ ih t i x => T.rec (motive := fun _ => T α)
      (Nat.rec (motive := fun _ => T α) (.n .e x .e) (fun j _ => Nat.rec (motive := fun _ => T α) (.n (ih .e (Nat.div j 2) x) none .e) (fun _ _ => .n .e none (ih .e (Nat.div j 2) x)) (Nat.mod j 2)) i)
      (fun l v r _ _ => Nat.rec (motive := fun _ => T α) (.n l x r) (fun j _ => Nat.rec (motive := fun _ => T α) (.n (ih l (Nat.div j 2) x) v r) (fun _ _ => .n l v (ih r (Nat.div j 2) x)) (Nat.mod j 2)) i) t) f

theorem T.get_e {α : Type} (i : Nat) : (T.e : T α).get i = none := rfl
theorem T.get_n {α : Type} (l : T α) (v : Option α) (r : T α) (i : Nat) : (T.n l v r).get i = match i with
    | 0 => v
    | i + 1 => match i % 2 with
      | 0 => l.get (i / 2)
      | _ + 1 => r.get (i / 2) := by
  cases i with
  | zero => rfl
  | succ i =>
    show Nat.rec (motive := fun _ => Option α) (l.get (i / 2)) (fun _ _ => r.get (i / 2)) (i % 2) = _
    dsimp only
    cases i % 2 <;> rfl
theorem T.set_zero {α : Type} (t : T α) (i : Nat) (x : Option α) : T.set 0 t i x = t := rfl
theorem T.set_e {α : Type} (f i : Nat) (x : Option α) : T.set (f + 1) (.e : T α) i x = match i with
    | 0 => .n .e x .e
    | i + 1 => match i % 2 with
      | 0 => .n (T.set f .e (i / 2) x) none .e
      | _ + 1 => .n .e none (T.set f .e (i / 2) x) := by
  cases i with
  | zero => rfl
  | succ i =>
    show Nat.rec (motive := fun _ => T α) (.n (T.set f .e (i / 2) x) none .e) (fun _ _ => .n .e none (T.set f .e (i / 2) x)) (i % 2) = _
    dsimp only
    cases i % 2 <;> rfl
theorem T.set_n {α : Type} (f : Nat) (l : T α) (v : Option α) (r : T α) (i : Nat) (x : Option α) : T.set (f + 1) (.n l v r) i x = match i with
    | 0 => .n l x r
    | i + 1 => match i % 2 with
      | 0 => .n (T.set f l (i / 2) x) v r
      | _ + 1 => .n l v (T.set f r (i / 2) x) := by
  cases i with
  | zero => rfl
  | succ i =>
    show Nat.rec (motive := fun _ => T α) (.n (T.set f l (i / 2) x) v r) (fun _ _ => .n l v (T.set f r (i / 2) x)) (i % 2) = _
    dsimp only
    cases i % 2 <;> rfl

def T.put {α : Type} (t : T α) (i : Nat) (x : α) : T α := T.set (Nat.succ i) t i (some x)

def T.putList {α : Type} (t : T α) (i : Nat) : List α → T α
  | [] => t
  | x :: xs => (t.put i x).putList (i + 1) xs

/-- every other one -/
def alt {α : Type} (l : List α) : Bool → List α :=
  List.rec (motive := fun _ => Bool → List α) (fun _ => []) (fun x _ ih b => Bool.rec (motive := fun _ => List α) (ih true) (x :: ih false) b) l

def T.bulk {α : Type} (f : Nat) : List α → T α :=
  Nat.rec (motive := fun _ => List α → T α) (fun _ => .e) (fun _ ih l => List.rec (motive := fun _ => T α) .e (fun x xs _ => .n (ih (alt xs true)) (some x) (ih (alt xs false))) l) f

def T.ofList {α : Type} (l : List α) : T α := T.bulk l.length l

/-- what is known of a block's room behind its cells: none · some, unknown · it may only be read -/
inductive Cap where
  | exact | grown | stale

/-- what else is known of a row: the block that dies when it is written to, its elements' type -/
structure Tw where
  t : Option Nat
  el : TypeId

inductive AObj where
  | cells (c : T Value) (n : Nat) (cap : Cap) (tw : Tw)
  | map (es : List (Value × Value))
  | iter (s : List UInt8) (pos : Nat)
  | loop (ready : Bool) (tm : T Value) (params : List Tmp) (assign body : Code)
  | dfr
  | dead

structure H where
  t : T AObj
  next : Nat

def H.obj (h : H) (b : Nat) : AObj := match h.t.get b with | some o => o | none => .dead
def H.upd (h : H) (b : Nat) (o : AObj) : H := ⟨h.t.put b o, h.next⟩
def H.new (h : H) (o : AObj) : H := ⟨h.t.put h.next o, h.next + 1⟩
def H.kill (h : H) : Option Nat → H
  | none => h
  | some b => h.upd b .dead

structure TI where
  u : TypeDesc
  info : TypeInfo

inductive Res where
  | ret (v : Value)
  | pan (chain : List PanicEntry)

/-- ng: how many globals there are · orc: calls whose outcome is known already -/
structure Env where
  P : Program
  fn : T Func
  ty : T TI
  ng : Nat
  orc : FuncId → List Value → H → Option (Res × H) := fun _ _ _ => none

/-- what is known of a call -/
def askO (E : Env) (f : FuncId) (args : Array Value) (cm : FrameMode) (h : H) : Option (Res × H) :=
  match cm with
  | .run => E.orc f args.toList h
  | _ => none

mutual
/-- no address stands in it -/
def flat : Value → Bool
  | .bool _ | .int .. | .float .. | .complex .. | .string _ | .nilIface | .nilFunc => true
  | .pointer none => true
  | .slice none 0 0 => true
  | .map none => true
  | .func (.func _) a b => match flatL a.toList with | true => flatL b.toList | false => false
  | .iface _ v => flat v
  | .agg cs => flatL cs.toList
  | .tuple cs => flatL cs.toList
  | _ => false
def flatL : List Value → Bool
  | [] => true
  | v :: vs => match flat v with | true => flatL vs | false => false
end

def opndOk (ng : Nat) : Operand → Bool
  | .tmp _ => true
  | .const v => flat v
  | .global g => Nat.blt g ng
  | .func _ => true

def dstOk (n : Nat) : Option Tmp → Bool
  | none => true
  | some d => Nat.blt d n

def operOk (ng n : Nat) (o : Oper) : Bool := match dstOk n o.dst with
  | true => o.op.operands.toList.all (opndOk ng)
  | false => false

def codeOk (ng n : Nat) : Code → Bool
  | .region _ ops _ => ops.toList.all (operOk ng n)
  | .seq a b => match codeOk ng n a with | true => codeOk ng n b | false => false
  | .cond c a b => match opndOk ng c, codeOk ng n a with | true, true => codeOk ng n b | _, _ => false
  | .block _ b => codeOk ng n b
  | .loop b => codeOk ng n b
  | .scope b => codeOk ng n b
  | .rangeFunc f ps a b => match opndOk ng f, ps.toList.all (fun p => Nat.blt p n), codeOk ng n a with | true, true, true => codeOk ng n b | _, _, _ => false
  | _ => true

/-- of straight code: what it writes, what it looks at -/
def straightDst (n : Nat) : Code → Bool
  | .region _ ops _ => ops.toList.all fun o => dstOk n o.dst
  | .seq a b => match straightDst n a with | true => straightDst n b | false => false
  | .block _ b => straightDst n b
  | _ => true

def straightOpn (ng : Nat) : Code → Bool
  | .region _ ops _ => ops.toList.all fun o => o.op.operands.toList.all (opndOk ng)
  | .seq a b => match straightOpn ng a with | true => straightOpn ng b | false => false
  | .block _ b => straightOpn ng b
  | _ => true

def pureRun {α : Type} (p : Program) : Sem α → Option α
  | .pure a => some a
  | .program k => pureRun p (k p)
  | .mark _ k => pureRun p k
  | _ => none

def Env.und (E : Env) (t : TypeId) : Option TypeDesc := match E.ty.get t with | some i => some i.u | none => none
def Env.size (E : Env) (t : TypeId) : Option Nat := match E.ty.get t with | some i => some i.info.size | none => none
def Env.zero (E : Env) (t : TypeId) : Option Value := match E.ty.get t with | some i => i.info.zero | none => none
def isAggD : TypeDesc → Bool
  | .struct _ | .array _ _ => true
  | _ => false

def oneCell : Value → Bool
  | .agg _ | .tuple _ => false
  | _ => true

def oneCells : List Value → Bool
  | [] => true
  | v :: vs => match oneCell v with | true => oneCells vs | false => false

def getCells (c : T Value) : Nat → Nat → Option (List Value)
  | _, 0 => some []
  | i, n + 1 => match c.get i with
    | some v => match getCells c (i + 1) n with
      | some vs => some (v :: vs)
      | none => none
    | none => none

def H.read (h : H) (b i n : Nat) : Option (List Value) :=
  match h.obj b with
  | .cells c sz _ _ => match Nat.ble (i + n) sz with
    | true => getCells c i n
    | false => none
  | _ => none

def H.write (h : H) (b i : Nat) (vs : List Value) : Option H :=
  match h.obj b with
  | .cells c sz cap tw => match cap with
    | .stale => none
    | cap => match Nat.ble (i + vs.length) sz, oneCells vs with
      | true, true => some ((h.kill tw.t).upd b (.cells (c.putList i vs) sz cap ⟨none, tw.el⟩))
      | _, _ => none
  | _ => none

def asIdx (v : Value) (n : Nat) : Option Nat :=
  match v with
  | .int _ (.ofNat i) => match Nat.blt i n with | true => some i | false => none
  | _ => none

def asBound (v : Option Value) (dflt n : Nat) : Option Nat :=
  match v with
  | none => some dflt
  | some (.int _ (.ofNat i)) => match Nat.ble i n with | true => some i | false => none
  | _ => none

def partA (E : Env) (t : TypeId) (cs : List Value) (off : Nat) : Option Value :=
  match E.ty.get t with
  | some i => match isAggD i.u with
    | true => some (.agg ((cs.drop off).take i.info.size).toArray)
    | false => cs[off]?
  | none => none

def places (E : Env) : List Field → Option (List (Nat × Nat))
  | [] => some []
  | f :: fs => match E.size f.type, places E fs with
    | some n, some l => some ((f.offset, n) :: l)
    | _, _ => none

def placeList (vs : List Value) (off : Nat) (cells : List Value) : List Value :=
  cells.take off ++ (vs ++ cells.drop (off + vs.length))

def fillA (place : Nat → Option (Nat × Nat)) (cells : List Value) : List (Nat × Value) → Option (List Value)
  | [] => some cells
  | (i, v) :: rest =>
    match place i with
    | none => none
    | some (off, size) =>
      match Nat.beq v.cells.size size, Nat.ble (off + size) cells.length with
      | true, true => fillA place (placeList v.cells.toList off cells) rest
      | _, _ => none

def repl (z : List Value) : Nat → List Value
  | 0 => []
  | n + 1 => z ++ repl z n

/-- x == y, one of the two nil -/
def aeq (d : Option TypeDesc) (x y : Value) : Option Bool :=
  match d, x, y with
  | some (.pointer _), .pointer none, .pointer b => some b.isNone
  | some (.pointer _), .pointer (some _), .pointer none => some false
  | some (.slice _), .slice none _ _, .slice b _ _ => some b.isNone
  | some (.slice _), .slice (some _) _ _, .slice none _ _ => some false
  | some (.map ..), .map none, .map b => some b.isNone
  | some (.map ..), .map (some _), .map none => some false
  | some (.func ..), .nilFunc, .nilFunc => some true
  | some (.func ..), .nilFunc, .func .. => some false
  | some (.func ..), .func .., .nilFunc => some false
  | some (.interface _), .nilIface, .iface .. => some false
  | some (.interface _), .iface .., .nilIface => some false
  | _, _, _ => none

/-- the same place -/
def aptrEq (E : Env) (t : TypeId) (x y : Value) : Option Bool :=
  match x, y, E.und t with
  | .pointer (some ⟨b, i, none⟩), .pointer (some ⟨b', i', none⟩), some (.pointer el) => match E.size el, Nat.beq b b', Nat.beq i i' with
    | some (_ + 1), true, true => some true
    | _, _, _ => none
  | _, _, _ => none

def bytesOf : List Value → Option (List UInt8)
  | [] => some []
  | .int .u8 n :: l => match bytesOf l with
    | some r => match decide ((UInt8.ofNat n.toNat).toNat = n) with | true => some (UInt8.ofNat n.toNat :: r) | false => none
    | none => none
  | _ => none

def keyEq : Value → Value → Option Bool
  | .int k a, .int k' b => match decide (k = k') with | true => some (a == b) | false => none
  | .string a, .string b => some (a == b)
  | _, _ => none

def mapGet (k : Value) : List (Value × Value) → Option (Option Value)
  | [] => some none
  | (a, v) :: es => match keyEq k a with
    | some true => some (some v)
    | some false => mapGet k es
    | none => none

def mapPut (k v : Value) : List (Value × Value) → Option (List (Value × Value))
  | [] => some [(k, v)]
  | (a, u) :: es => match keyEq k a with
    | some true => some ((k, v) :: es)
    | some false => match mapPut k v es with | some r => some ((a, u) :: r) | none => none
    | none => none

def okv (ok : Bool) (v : Value) (there : Bool) : Value := match ok with | true => .tuple #[v, .bool there] | false => v

/-- an operation over values without addresses that asks nothing of memory -/
def agen (E : Env) (ρ : Operand → Value) (o : Oper) : Option Value :=
  match flatL (o.op.operands.toList.map ρ) with
  | true => match o.op with
    | .select .. => none
    | _ => match pureRun E.P (execOp ρ o) with
      | some (.value v) => match flat v with | true => some v | false => none
      | _ => none
  | false => none

/-- a function of this name, no instance of another -/
def isFn (fn : Func) (name : String) : Bool := match decide (fn.name = name) with
  | true => decide (fn.origin = "")
  | false => false

def aload (E : Env) (h : H) (t : TypeId) (x : Value) : Option Value :=
  match x with
  | .pointer (some ⟨b, i, none⟩) => match E.ty.get t with
    | some ti => match isAggD ti.u with
      | true => match h.read b i ti.info.size with | some l => some (.agg l.toArray) | none => none
      | false => match h.read b i 1 with | some (v :: _) => some v | _ => none
    | none => none
  | _ => none

def abin (op : BinOp) (x y : Value) : Option Value :=
  match op, x, y with
  | .add, .int k a, .int k' b => match decide (k = k') with | true => some (.int k (k.wrap (a + b))) | false => none
  | .sub, .int k a, .int k' b => match decide (k = k') with | true => some (.int k (k.wrap (a - b))) | false => none
  | .eql, .int k a, .int k' b => match decide (k = k') with | true => some (.bool (a == b)) | false => none
  | .neq, .int k a, .int k' b => match decide (k = k') with | true => some (.bool (a != b)) | false => none
  | .lss, .int k a, .int k' b => match decide (k = k') with | true => some (.bool (decide (a < b))) | false => none
  | .leq, .int k a, .int k' b => match decide (k = k') with | true => some (.bool (decide (a ≤ b))) | false => none
  | _, _, _ => none

def aslice (E : Env) (ρ : Operand → Value) (h : H) (t : TypeId) (x : Value) (lo hi : Option Operand) : Option Value :=
  match x, E.und t with
  | .slice (some ⟨b, i, none⟩) len z, some (.slice el) => match E.size el, asBound (hi.map ρ) len len with
    | some w', some hv => match asBound (lo.map ρ) 0 hv with
      | some l => match z with
        | 0 => some x
        | w + 1 => match Nat.beq (w + 1) w' with
          | true => some (.slice (some ⟨b, i + l * (w + 1), none⟩) (hv - l) (w + 1))
          | false => none
      | none => none
    | _, _ => none
  | .slice none _ _, some (.slice el) => match E.size el, asBound (hi.map ρ) 0 0 with
    | some _, some hv => match asBound (lo.map ρ) 0 hv with
      | some _ => some (.slice none 0 0)
      | none => none
    | _, _ => none
  | .pointer (some ⟨b, i, none⟩), some (.array len el) => match E.size el, h.obj b with
    | some (w + 1), .cells _ n .exact _ => match Nat.beq (i + len * (w + 1)) n with
      | true => match asBound (hi.map ρ) len len with
        | some hv => match asBound (lo.map ρ) 0 hv with
          | some l => some (.slice (some ⟨b, i + l * (w + 1), none⟩) (hv - l) (w + 1))
          | none => none
        | none => none
      | false => none
    | _, _ => none
  | .string s, some .string => match asBound (hi.map ρ) s.size s.size with
      | some hv => match asBound (lo.map ρ) 0 hv with
        | some l => some (.string ⟨((s.data.toList.drop l).take (hv - l)).toArray⟩)
        | none => none
      | none => none
  | _, _ => none

def abuild (E : Env) (ρ : Operand → Value) (t : TypeId) (parts : Array (Nat × Operand)) : Option Value :=
  match E.ty.get t with
  | some ti => match ti.info.zero with
    | some z => match ti.u with
      | .struct fs => match places E fs.toList with
        | some ps => match fillA (fun i => ps[i]?) z.cells.toList (parts.toList.map fun (i, x) => (i, ρ x)) with
          | some l => some (.agg l.toArray)
          | none => none
        | none => none
      | .array _ el => match E.size el with
        | some w => match fillA (fun i => some (i * w, w)) z.cells.toList (parts.toList.map fun (i, x) => (i, ρ x)) with
          | some l => some (.agg l.toArray)
          | none => none
        | none => none
      | _ => none
    | none => none
  | none => none

/-- is it a key of a type whose keys are held against each other at once? -/
def akey : TypeDesc → Value → Bool
  | .int _, .int .. => true
  | .string, .string _ => true
  | _, _ => false

def alookup (E : Env) (h : H) (t : TypeId) (m k : Value) (ok : Bool) : Option Value :=
  match E.und t with
  | some (.map kt el) => match E.zero el, E.und kt with
    | some z, some kd => match akey kd k with
      | true => match m with
        | .map (some r) => match h.obj r with
          | .map es => match mapGet k es with
            | some (some v) => some (okv ok v true)
            | some none => some (okv ok z false)
            | none => none
          | _ => none
        | .map none => some (okv ok z false)
        | _ => none
      | false => none
    | _, _ => none
  | _ => none

def abuiltin (E : Env) (h : H) (b : Builtin) (t : TypeId) (args : List Value) : Option Value :=
  match b, args, E.und t with
  | .len, [.slice _ n _], some (.slice _) => some (.int .i64 n)
  | .len, [.string s], some .string => some (.int .i64 s.size)
  | .len, [.map (some r)], some (.map _ _) => match h.obj r with | .map es => some (.int .i64 es.length) | _ => none
  | .len, [.map none], some (.map _ _) => some (.int .i64 0)
  | .len, [_], some (.array n _) => some (.int .i64 n)
  | .cap, [.slice none _ _], some (.slice _) => some (.int .i64 0)
  | .cap, [.slice (some ⟨b, i, none⟩) _ (w + 1)], some (.slice _) => match h.obj b with
    | .cells _ n .exact _ => some (.int .i64 ((n - i) / (w + 1) : Nat))
    | _ => none
  | .cap, [.slice (some _) _ 0], some (.slice _) => some (.int .i64 0)
  | _, _, _ => none

/-- operations that leave memory as it is -/
def aquiet (E : Env) (ρ : Operand → Value) (h : H) (o : Oper) : Option Value :=
  match o.op with
  | .move x | .assign x => some (ρ x)
  | .pick c a b => match ρ c with | .bool true => some (ρ a) | .bool false => some (ρ b) | _ => none
  | .load t x => aload E h t (ρ x)
  | .nilCheck x => match ρ x with
    | .pointer (some a) => some (.pointer (some a))
    | .func (.func f) a b => some (.func (.func f) a b)
    | .iface t v => some (.iface t v)
    | _ => none
  | .fieldAddr t x f => match ρ x, E.und t with
    | .pointer (some ⟨b, i, none⟩), some (.struct fs) => match fs[f]? with
      | some fd => match E.size fd.type with
        | some (_ + 1) => some (.pointer (some ⟨b, i + fd.offset, none⟩))
        | _ => none
      | none => none
    | _, _ => none
  | .field t x f => match ρ x, E.und t with
    | .agg cs, some (.struct fs) => match fs[f]? with
      | some fd => partA E fd.type cs.toList fd.offset
      | none => none
    | _, _ => none
  | .indexAddr t x ix => match ρ x, E.und t with
    | .slice (some ⟨b, i, none⟩) len z, some (.slice el) => match asIdx (ρ ix) len, E.size el with
      | some k, some (w + 1) => match Nat.beq z (w + 1) with
        | true => some (.pointer (some ⟨b, i + k * (w + 1), none⟩))
        | false => none
      | _, _ => none
    | .pointer (some ⟨b, i, none⟩), some (.array len el) => match asIdx (ρ ix) len, E.size el with
      | some k, some (w + 1) => some (.pointer (some ⟨b, i + k * (w + 1), none⟩))
      | _, _ => none
    | _, _ => none
  | .index t x ix => match ρ x, E.und t with
    | .string b, some .string => match asIdx (ρ ix) b.size with
      | some k => match b.data.toList[k]? with | some c => some (.int .u8 c.toNat) | none => none
      | none => none
    | .agg cs, some (.array len el) => match asIdx (ρ ix) len, E.size el with
        | some k, some w => partA E el cs.toList (k * w)
        | _, _ => none
    | _, _ => none
  | .slice t x lo hi none => aslice E ρ h t (ρ x) lo hi
  | .build t parts => abuild E ρ t parts
  | .makeInterface t x => match E.und t with
    | some (.interface _) => none
    | some _ => some (.iface t (ρ x))
    | none => none
  | .typeAssert x _ t ok => match ρ x, E.und t with
    | _, some (.interface _) => none
    | .iface t' v, some _ => match Nat.beq t' t with
      | true => some (okv ok v true)
      | false => match ok, E.zero t with | true, some z => some (okv true z false) | _, _ => none
    | .nilIface, some _ => match ok, E.zero t with | true, some z => some (okv true z false) | _, _ => none
    | _, _ => none
  | .makeFunc fn first cap => match fn with
    | .func _ => some (.func fn (first.map ρ) (cap.map ρ))
    | _ => none
  | .extract x i => match ρ x with
    | .tuple vs => vs.toList[i]?
    | _ => none
  | .binOp op t x y _ => match abin op (ρ x) (ρ y) with
    | some v => some v
    | none => match op, aeq (E.und t) (ρ x) (ρ y) with
      | .eql, some r => some (.bool r)
      | .neq, some r => some (.bool (!r))
      | _, _ => match op, aptrEq E t (ρ x) (ρ y) with
        | .eql, some r => some (.bool r)
        | .neq, some r => some (.bool (!r))
        | _, _ => agen E ρ o
  | .unOp .. => agen E ρ o
  | .convert src dst x => match E.und src, E.und dst with
    | some (.slice e), some .string => match E.und e, ρ x with
      | some (.int .u8), .slice a len z => match a with
        | none => some (.string ⟨#[]⟩)
        | some ⟨b, i, none⟩ => match len with
          | 0 => some (.string ⟨#[]⟩)
          | len + 1 => match Nat.beq z 1, h.read b i (len + 1) with
            | true, some l => match bytesOf l with | some r => some (.string ⟨r.toArray⟩) | none => none
            | _, _ => none
        | _ => none
      | _, _ => none
    | some .string, some (.slice _) => none
    | some (.pointer t), some .unsafePointer => match ρ x with
      | .pointer (some ⟨b, i, none⟩) => match h.obj b, E.size t with
        | .cells _ n _ _, some (_ + 1) => match Nat.blt i n with
          | true => some (.pointer (some ⟨b, i, none⟩))
          | false => none
        | _, _ => none
      | .pointer none => some (.pointer none)
      | _ => none
    | some .unsafePointer, some (.pointer u) => match ρ x with
      | .pointer (some ⟨b, i, none⟩) => match h.obj b with
        | .cells _ n .exact tw => match E.size u, liesAt E.P E.P.depth tw.el (n / E.P.cellsOf tw.el) i u 1 with
          | some _, true => some (.pointer (some ⟨b, i, none⟩))
          | _, _ => none
        | _ => none
      | .pointer none => some (.pointer none)
      | _ => none
    | some .unsafePointer, some .unsafePointer => none
    | _, _ => agen E ρ o
  | .lookup t m k ok => alookup E h t (ρ m) (ρ k) ok
  | .call c => match c.callee with
    | .builtin b => match (match c.argTypes.toList with | t :: _ => abuiltin E h b t (c.args.toList.map ρ) | [] => none) with
      | some v => some v
      | none => match b with
        | .unsafeSliceData => match c.args.toList.map ρ with
          | [.slice (some ⟨b, i, none⟩) (_ + 1) (_ + 1)] => some (.pointer (some ⟨b, i, none⟩))
          | _ => none
        | .len | .cap | .append | .copy | .clear | .delete | .recover | .panic | .print | .println | .close => none
        | _ => agen E ρ o
    | .value (.func f) => match E.fn.get f with
      | some fn => match fn.body with
        | none => match isFn fn "internal/abi.NoEscape", c.args.toList.map ρ with
          | true, [v] => match ρ (.func f) with
            | .func (.func g) ⟨[]⟩ ⟨[]⟩ => match Nat.beq f g with
              | true => some v
              | false => none
            | _ => none
          | _, _ => agen E ρ o
        | some _ => none
      | none => none
    | _ => none
  | _ => none

/-- operations that make one new block, out of what they are handed alone -/
def afresh (E : Env) (ρ : Operand → Value) (o : Oper) : Option (AObj × (Nat → Value)) :=
  match o.op with
  | .alloc t => match E.zero t with
    | some z => match oneCells z.cells.toList with
      | true => some (.cells (T.ofList z.cells.toList) z.cells.size .exact ⟨none, t⟩, fun b => .pointer (some ⟨b, 0, none⟩))
      | false => none
    | none => none
  | .box t x => match oneCells (ρ x).cells.toList with
    | true => some (.cells (T.ofList (ρ x).cells.toList) (ρ x).cells.size .exact ⟨none, t⟩, fun b => .pointer (some ⟨b, 0, none⟩))
    | false => none
  | .buildSlice t len parts => match E.und t with
    | some (.slice el) => match E.ty.get el with
      | some ti => match ti.info.zero, ti.info.size with
        | some z, w + 1 => match Nat.beq z.cells.size (w + 1), Nat.ble (len * (w + 1)) 16777216, fillA (fun i => some (i * (w + 1), w + 1)) (repl z.cells.toList len) (parts.toList.map fun (i, x) => (i, ρ x)) with
          | true, true, some l => match oneCells l with
            | true => some (.cells (T.ofList l) (len * (w + 1)) .exact ⟨none, el⟩, fun b => .slice (some ⟨b, 0, none⟩) len (w + 1))
            | false => none
          | _, _, _ => none
        | _, _ => none
      | none => none
    | _ => none
  | .makeMap _ none => some (.map [], fun b => .map (some b))
  | .makeSlice t l c => match E.und t, ρ l, ρ c with
    | some (.slice el), .int _ (.ofNat l), .int _ (.ofNat c) => match E.ty.get el with
      | some ti => match ti.info.zero, ti.info.size with
        | some z, w + 1 => match Nat.beq z.cells.size (w + 1), Nat.ble l c, Nat.ble (c * ti.info.bytes) 1073741824, Nat.ble c 1073741824, oneCells z.cells.toList with
          | true, true, true, true, true => some (.cells (T.ofList (repl z.cells.toList c)) (c * (w + 1)) .exact ⟨none, el⟩, fun b => .slice (some ⟨b, 0, none⟩) l (w + 1))
          | _, _, _, _, _ => none
        | _, _ => none
      | none => none
    | _, _, _ => none
  | .convert src dst x => match E.und src, E.und dst, ρ x with
    | some .string, some (.slice e), .string b => match E.und e, E.size e with
      | some (.int .u8), some 1 => some (.cells (T.ofList (b.data.toList.map fun c => Value.int .u8 c.toNat)) b.size .grown ⟨none, e⟩, fun k => .slice (some ⟨k, 0, none⟩) b.size 1)
      | _, _ => none
    | _, _, _ => none
  | .range t x => match E.und t, ρ x with
    | some .string, .string b => some (.iter b.data.toList 0, fun k => .pointer (some ⟨k, 0, none⟩))
    | _, _ => none
  | _ => none

inductive R1 where
  | value (v : Value) (h : H)
  | enter (f : FuncId) (args : Array Value)
  | panic (v : Value)
  | defer (d : Deferred)
  | recover
  | round (l : Nat) (args : List Value)

def afirst (h : H) (sz n : Nat) : Value → Option (List Value)
  | .slice (some ⟨b, i, none⟩) _ z => match Nat.beq z sz with
    | true => h.read b i (n * sz)
    | false => match n with | 0 => some [] | _ => none
  | .slice none _ _ => match n with | 0 => some [] | _ => none
  | .string s => match Nat.beq sz 1, Nat.ble n s.size with
    | true, true => some ((s.data.toList.take n).map fun b => .int .u8 b.toNat)
    | _, _ => none
  | _ => none

def alenOf : Value → Option Nat
  | .slice _ n _ => some n
  | .string s => some s.size
  | _ => none

/-- a new row of n elements of w + 1 cells that was grown -/
def grownRow (h : H) (l : List Value) (n w : Nat) (tw : Tw) : Value × H :=
  (.slice (some ⟨h.next, 0, none⟩) n (w + 1), h.new (.cells (T.ofList l) (n * (w + 1)) .grown tw))

def aappend (E : Env) (elem : TypeId) (sv xv : Value) (h : H) : Option (Value × H) :=
  match E.ty.get elem with
  | some ti => match ti.info.size, ti.info.zero with
    | w + 1, some zv => match Nat.beq zv.cells.size (w + 1), sv, alenOf xv with
      | true, .slice base len z, some n => match afirst h (w + 1) n xv, Nat.ble ((len + n) * ti.info.bytes) 1099511627776, Nat.ble ti.info.bytes 65536, Nat.ble (len + n) 1099511627776 with
        | some new, true, true, true => match oneCells new, Nat.blt 0 ti.info.bytes with
          | true, true => match base with
            | none => match n with
              | 0 => some (.slice none 0 0, h)
              | n + 1 => some (grownRow h new (n + 1) w ⟨none, elem⟩)
            | some ⟨b, i, none⟩ => match n with
              | 0 => some (sv, h)
              | n + 1 => match z with
                | 0 => some (grownRow h new (n + 1) w ⟨none, elem⟩)
                | _ + 1 => match Nat.beq z (w + 1), h.obj b with
                  | true, .cells c sz cap tw =>
                    match Nat.ble (i + (len + (n + 1)) * (w + 1)) sz with
                    | true => match h.write b (i + len * (w + 1)) new with
                      | some h' => some (.slice (some ⟨b, i, none⟩) (len + (n + 1)) z, h')
                      | none => none
                    | false => match h.read b i (len * (w + 1)) with
                      | none => none
                      | some old => match oneCells old with
                        | false => none
                        | true => match cap with
                          | .exact => some (grownRow h (old ++ new) (len + (n + 1)) w ⟨none, elem⟩)
                          | .stale => none
                          | .grown => match Nat.beq (i + len * (w + 1)) sz with
                            | false => none
                            | true => match Nat.beq tw.el elem with
                              | false => none
                              | true => some (.slice (some ⟨h.next, 0, none⟩) (len + (n + 1)) (w + 1),
                                ((h.kill tw.t).upd b (.cells c sz .stale ⟨none, tw.el⟩)).new (.cells (match i with | 0 => c.putList sz new | _ => T.ofList (old ++ new)) ((len + (n + 1)) * (w + 1)) .grown ⟨some b, tw.el⟩))
                  | _, _ => none
            | _ => none
          | _, _ => none
        | _, _, _, _ => none
      | _, _, _ => none
    | _, _ => none
  | none => none

/-- append(nil, make([]T, n)...) -/
def azeros (E : Env) (elem : TypeId) (sv xv : Value) (h : H) : Option (Value × H) :=
  match sv, xv with
  | .slice none 0 0, .int .i64 (.ofNat n) => match E.ty.get elem with
    | some ti => match ti.info.size, ti.info.zero with
      | w + 1, some zv => match Nat.beq zv.cells.size (w + 1), Nat.ble (n * ti.info.bytes) 1099511627776, Nat.ble ti.info.bytes 65536, Nat.ble n 1099511627776, oneCells zv.cells.toList with
        | true, true, true, true, true => match n with
          | 0 => some (.slice none 0 0, h)
          | n + 1 => some (grownRow h (repl zv.cells.toList (n + 1)) (n + 1) w ⟨none, elem⟩)
        | _, _, _, _, _ => none
      | _, _ => none
    | none => none
  | _, _ => none

def aslice3 (E : Env) (ρ : Operand → Value) (h : H) (t : TypeId) (x : Value) (lo hi : Option Operand) (mx : Operand) : Option R1 :=
  match x, E.und t with
  | .slice (some ⟨b, i, none⟩) len z, some (.slice el) => match E.size el, z, h.obj b with
    | some w', w + 1, .cells c n cap tw => match Nat.beq w' (w + 1), Nat.ble i n, asBound (some (ρ mx)) 0 ((n - i) / (w + 1)) with
      | true, true, some m => match asBound (hi.map ρ) len m with
        | some hv => match asBound (lo.map ρ) 0 hv with
          | some l => match Nat.beq m l, hi with
            | true, some _ => some (.value (.slice (some ⟨b, i, none⟩) 0 0) h)
            | false, some _ => match Nat.beq m hv, h.read b (i + l * (w + 1)) ((hv - l) * (w + 1)) with
              | true, some old => match cap with
                | .stale => none
                | _ => some (.value (.slice (some ⟨h.next, 0, none⟩) (hv - l) (w + 1))
                    (((h.kill tw.t).upd b (.cells c n cap ⟨some h.next, tw.el⟩)).new (.cells (T.ofList old) ((hv - l) * (w + 1)) .stale ⟨none, tw.el⟩)))
              | _, _ => none
            | _, none => none
          | none => none
        | none => none
      | _, _, _ => none
    | some _, 0, _ => match asBound (some (ρ mx)) 0 0, hi with
      | some _, some hi => match asBound (some (ρ hi)) 0 0 with
        | some _ => match asBound (lo.map ρ) 0 0 with
          | some _ => some (.value (.slice (some ⟨b, i, none⟩) 0 0) h)
          | none => none
        | none => none
      | _, _ => none
    | _, _, _ => none
  | .slice none _ _, some (.slice el) => match E.size el, asBound (some (ρ mx)) 0 0, hi with
    | some _, some _, some hi => match asBound (some (ρ hi)) 0 0, asBound (lo.map ρ) 0 0 with
      | some _, some _ => some (.value (.slice none 0 0) h)
      | _, _ => none
    | _, _, _ => none
  | _, _ => none

def amapUpd (E : Env) (h : H) (t : TypeId) (m k v : Value) : Option R1 :=
  match m, E.und t with
  | .map (some r), some (.map kt _) => match h.obj r, E.und kt with
    | .map es, some kd => match akey kd k with
      | true => match mapPut k v es with
        | some es' => some (.value undef (h.upd r (.map es')))
        | none => none
      | false => none
    | _, _ => none
  | _, _ => none

def astore (E : Env) (h : H) (t : TypeId) (p v : Value) : Option R1 :=
  match p, E.size t with
  | .pointer (some ⟨b, i, none⟩), some n => match Nat.beq v.cells.size n with
    | true => match h.write b i v.cells.toList with
      | some h => some (.value undef h)
      | none => none
    | false => none
  | _, _ => none

/-- a mark behind the block's end -/
def amark (E : Env) (h : H) (src dst : TypeId) (x : Value) : Option R1 :=
  match E.und src, E.und dst, x with
  | some (.slice _), some (.slice e), .slice (some ⟨b, i, none⟩) (l + 1) (w + 1) => match Nat.beq src dst, E.und e, h.obj b with
    | true, some (.int .u8), .cells _ _ cap _ => match cap with
      | .stale => none
      | _ => some (.value (.slice (some ⟨b, i, none⟩) (l + 1) (w + 1)) h)
    | _, _, _ => none
  | _, _, _ => none

def anext (h : H) (x : Value) : Option R1 :=
  match x with
  | .pointer (some ⟨b, 0, none⟩) => match h.obj b with
    | .iter l pos => match Nat.blt pos l.length with
      | true => some (.value (.tuple #[.bool true, .int .i64 pos, .int .i32 (Utf8.decode ⟨l.toArray⟩ pos).1]) (h.upd b (.iter l (pos + (Utf8.decode ⟨l.toArray⟩ pos).2))))
      | false => some (.value (.tuple #[.bool false]) h)
    | _ => none
  | _ => none

def acopy (E : Env) (h : H) (t : TypeId) (dv xv : Value) : Option R1 :=
  match dv, E.und t, alenOf xv with
  | .slice base dlen z, some (.slice el), some m => match E.size el with
    | some w => match afirst h w (Nat.min m dlen) xv with
      | some l => match base with
        | some ⟨b, i, none⟩ => match Nat.min m dlen with
          | 0 => some (.value (.int .i64 0) h)
          | k + 1 => match Nat.beq z w, h.write b i l with
            | true, some h => some (.value (.int .i64 (k + 1 : Nat)) h)
            | _, _ => none
        | none => some (.value (.int .i64 (Nat.min m dlen : Nat)) h)
        | _ => none
      | none => none
    | none => none
  | _, _, _ => none

def aclear (E : Env) (h : H) (t : TypeId) (x : Value) : Option R1 :=
  match x, E.und t with
  | .slice base len z, some (.slice el) => match base, len with
    | none, _ => some (.value undef h)
    | some _, 0 => some (.value undef h)
    | some ⟨b, i, none⟩, len + 1 => match E.zero el, E.size el with
      | some zv, some (w + 1) => match Nat.beq z (w + 1), Nat.beq zv.cells.size (w + 1), h.write b i (repl zv.cells.toList (len + 1)) with
        | true, true, some h => some (.value undef h)
        | _, _, _ => none
      | _, _ => none
    | _, _ => none
  | _, _ => none

/-- unsafe.String: the bytes are frozen -/
def aunsafeString (E : Env) (h : H) (pt : TypeId) (p n : Value) : Option R1 :=
  match p, n, E.und pt with
  | .pointer (some ⟨b, i, none⟩), .int _ (.ofNat (k + 1)), some (.pointer u) => match h.obj b with
    | .cells c sz cap tw => match cap with
      | .stale => none
      | _ => match h.read b i (k + 1), Nat.beq (E.P.cellsOf tw.el) 1, Nat.ble (k + 1) 1099511627776, sameLayout E.P E.P.depth tw.el u with
        | some l, true, true, true => match bytesOf l with
          | some r => some (.value (.string ⟨r.toArray⟩) ((h.kill tw.t).upd b (.cells c sz .stale ⟨none, tw.el⟩)))
          | none => none
        | _, _, _, _ => none
    | _ => none
  | .pointer _, .int _ (.ofNat 0), _ => some (.value (.string .empty) h)
  | _, _, _ => none

/-- bytealg.MakeNoZero: of what stands in it nothing is known -/
def anoZero (E : Env) (h : H) (fn : Func) (args : List Value) : Option R1 :=
  match args, fn.resultTypes.toList with
  | [.int .i64 (.ofNat n)], [t] => match Nat.ble n 1099511627776, E.und t with
    | true, some (.slice elem) => match E.size elem with
      | some 1 => some (.value (.slice (some ⟨h.next, 0, none⟩) n 1) (h.new (.cells .e n .grown ⟨none, elem⟩)))
      | _ => none
    | _, _ => none
  | _, _ => none

def ainvoke (E : Env) (recv : Value) (name : String) (args : Array Value) : Option R1 :=
  match recv with
  | .iface t v => match E.ty.get t with
    | some ti => match ti.info.methods.find? (·.name == name) with
      | some m => match m.path.toList, m.func with
        | [], some (f, pr) => match ti.u, pr with
          | .pointer _, true => some (.enter f (#[v] ++ args))
          | .pointer _, false => none
          | _, false => some (.enter f (#[v] ++ args))
          | _, true => none
        | _, _ => none
      | none => none
    | none => none
  | _ => none

def aloud (E : Env) (ρ : Operand → Value) (h : H) (o : Oper) : Option R1 :=
  match o.op with
  | .store t a x => astore E h t (ρ a) (ρ x)
  | .slice t x lo hi (some mx) => aslice3 E ρ h t (ρ x) lo hi mx
  | .mapUpdate t m k v => amapUpd E h t (ρ m) (ρ k) (ρ v)
  | .insert t m k v => amapUpd E h t (ρ m) (ρ k) (ρ v)
  | .convert src dst x => amark E h src dst (ρ x)
  | .next x true => anext h (ρ x)
  | .panic x => match ρ x with
    | .iface t v => some (.panic (.iface t v))
    | _ => none
  | .defer c => match c.callee with
    | .value f => match ρ f with
      | .func (.func fn) first cap => some (.defer { target := .fn (.func fn) cap, args := first ++ c.args.map ρ })
      | _ => none
    | _ => none
  | .call c => match c.callee with
    | .value f => match ρ f with
      | .func (.yield L) _ _ => some (.round L (c.args.toList.map ρ))
      | .func (.func f) first cap => match E.fn.get f with
        | some fn => match fn.body with
          | some _ => some (.enter f (first ++ c.args.map ρ ++ cap))
          | none => match isFn fn "internal/bytealg.MakeNoZero" with
            | true => anoZero E h fn (first ++ c.args.map ρ ++ cap).toList
            | false => none
        | none => none
      | _ => none
    | .builtin .recover => some .recover
    | .builtin .unsafeString => match c.argTypes.toList, c.args.toList.map ρ with
      | pt :: _, [p, n] => aunsafeString E h pt p n
      | _, _ => none
    | .builtin .append => match c.argTypes.toList, c.args.toList.map ρ with
      | [t, t'], [sv, xv] => match E.und t, E.und t' with
        | some (.slice el), some (.slice _) => match aappend E el sv xv h with
          | some (v, h) => some (.value v h)
          | none => none
        | some (.slice el), some .string => match aappend E el sv xv h with
          | some (v, h) => some (.value v h)
          | none => none
        | some (.slice el), some (.int _) => match azeros E el sv xv h with
          | some (v, h) => some (.value v h)
          | none => none
        | _, _ => none
      | _, _ => none
    | .builtin .copy => match c.argTypes.toList, c.args.toList.map ρ with
      | t :: _ , [dv, xv] => acopy E h t dv xv
      | _, _ => none
    | .builtin .clear => match c.argTypes.toList, c.args.toList.map ρ with
      | t :: _ , [x] => aclear E h t x
      | _, _ => none
    | .builtin _ => none
    | .invoke recv name => ainvoke E (ρ recv) name (c.args.map ρ)
  | _ => none

structure S where
  tmps : T Value
  defers : List Deferred
  cm : FrameMode
  h : H

def S.eval (s : S) : Operand → Value
  | .tmp t => match s.tmps.get t with | some v => v | none => undef
  | .const v => v
  | .global g => .pointer (some ⟨g, 0, none⟩)
  | .func f => .func (.func f) #[] #[]

def S.put (s : S) (d : Option Tmp) (v : Value) : S :=
  match d with
  | none => s
  | some d => ⟨s.tmps.put d v, s.defers, s.cm, s.h⟩

def boolIs : Value → Bool → Bool
  | .bool true, true => true
  | .bool false, false => true
  | _, _ => false

/-- the temporary an operation's guard looks at -/
def guardTmp (ops : List Oper) (o : Oper) : Option Tmp :=
  match o.guard with
  | none => none
  | some (j, _) => match ops[j]? with
    | some oj => oj.dst
    | none => none

def wantedA (ops : List Oper) (ρ : Operand → Value) (o : Oper) : Bool :=
  match o.guard with
  | none => true
  | some (_, want) => match guardTmp ops o with
    | some d => boolIs (ρ (.tmp d)) want
    | none => false

def aresult (E : Env) (s : S) : ResultVar → Option Value
  | .tmp t => some (s.eval (.tmp t))
  | .cell a t => aload E s.h t (s.eval (.tmp a))

def aresults (E : Env) (s : S) : List ResultVar → Option (List Value)
  | [] => some []
  | r :: rs => match aresult E s r, aresults E s rs with
    | some v, some l => some (v :: l)
    | _, _ => none

def oneOrTuple : List Value → Value
  | [v] => v
  | vs => .tuple vs.toArray

def isQuietOp (o : Op) : Bool := match o with
  | .move _ | .assign _ | .pick .. | .load .. | .nilCheck _ | .fieldAddr .. | .field .. | .indexAddr .. | .index .. | .build .. | .makeInterface .. | .typeAssert .. | .makeFunc .. | .extract .. | .binOp .. | .unOp .. | .lookup .. => true
  | .slice _ _ _ _ none => true
  | _ => false

/-- one operation, not a call: what it gives -/
def aop (E : Env) (ρ : Operand → Value) (h : H) (o : Oper) : Option R1 :=
  match aquiet E ρ h o with
  | some v => some (.value v h)
  | none => match isQuietOp o.op with
    | true => none
    | false => match afresh E ρ o with
      | some (x, f) => some (.value (f h.next) (h.new x))
      | none => aloud E ρ h o

/-! ### statements whose order is open -/

/-- 0: neither reads nor changes memory · 1: may read it · 2: makes a block out of what it is handed · 3: anything else -/
def opCls (E : Env) (o : Op) : Nat :=
  match o with
  | .move _ | .assign _ | .pick .. | .nilCheck _ | .fieldAddr .. | .field .. | .indexAddr .. | .index .. | .build .. | .makeInterface .. | .typeAssert .. | .makeFunc .. | .extract .. | .binOp .. | .unOp .. => 0
  | .load .. | .lookup .. => 1
  | .slice _ _ _ _ none => 1
  | .alloc _ | .box .. | .buildSlice .. | .makeMap _ none | .makeSlice .. | .range .. => 2
  | .convert src dst _ => match E.und src, E.und dst with
    | some .string, some (.slice _) => 2
    | some (.slice _), some .string => 1
    | some (.slice _), _ => 3
    | some (.pointer _), some .unsafePointer => 1
    | some .unsafePointer, some (.pointer _) => 1
    | _, _ => 0
  | .call c => match c.callee with
    | .builtin .len | .builtin .cap => 1
    | .builtin .min | .builtin .max | .builtin .real | .builtin .imag | .builtin .complex => 0
    | _ => 3
  | _ => 3

def maskOf : List Nat → Nat
  | [] => 0
  | i :: l => (1 <<< i) ||| maskOf l

def predsOf (o : Oper) : List Nat := (o.after.toList.filter (Region.binds .any)).map (·.on)

def unionAt (acc : List Nat) : List Nat → Nat
  | [] => 0
  | i :: l => (acc.getD i 0) ||| unionAt acc l

/-- for each operation a mask of all that stands before it -/
def befores : List Oper → List Nat → List Nat
  | [], acc => acc
  | o :: ops, acc => befores ops (acc ++ [maskOf (predsOf o) ||| unionAt acc (predsOf o)])

/-- a loud operation, what is to be read again behind it, what follows it, and may it stand behind the next? -/
structure Stage where
  c : Nat
  rc : List Nat
  g : List Nat
  sw : Bool

structure POp where
  i : Nat
  cls : Nat
  pm : Nat
  bm : Nat

def pops (E : Env) : List Oper → List Nat → Nat → List POp
  | o :: ops, b :: bs, i => ⟨i, opCls E o.op, maskOf (predsOf o), b⟩ :: pops E ops bs (i + 1)
  | _, _, _ => []

def findReady (done : Nat) (loud : Bool) : List POp → Option POp
  | [] => none
  | p :: l => match Nat.testBit done p.i, Nat.beq (p.pm &&& done) p.pm, Nat.beq p.cls 3, loud with
    | false, true, true, true => some p
    | false, true, false, false => some p
    | _, _, _, _ => findReady done loud l

def rcOf (done bm : Nat) : List POp → List Nat
  | [] => []
  | p :: l => match Nat.beq p.cls 1, Nat.testBit done p.i, Nat.testBit bm p.i with
    | true, true, false => p.i :: rcOf done bm l
    | _, _, _ => rcOf done bm l

def bmOf : List POp → Nat → Nat
  | [], _ => 0
  | p :: l, i => match Nat.beq p.i i with | true => p.bm | false => bmOf l i

/-- the quiet operations first, up to the next loud one -/
def mkStages (ps : List POp) : Nat → Nat → List Nat → Option (List Nat × List Stage)
  | 0, _, g => some (g.reverse, [])
  | n + 1, done, g => match findReady done false ps with
    | some p => mkStages ps n (done ||| (1 <<< p.i)) (p.i :: g)
    | none => match findReady done true ps with
      | some p => match mkStages ps n (done ||| (1 <<< p.i)) [] with
        | some (g', l) => some (g.reverse, ⟨p.i, rcOf done p.bm ps, g', match g', l with
            | [], [st] => match st.g with
              | [] => !(Nat.testBit (bmOf ps st.c) p.i)
              | _ => false
            | _, _ => false⟩ :: l)
        | none => none
      | none => none

def flatSt : List Stage → List Nat
  | [] => []
  | st :: l => st.c :: (st.g ++ flatSt l)

/-- the temporaries an operation looks at -/
def tmpsOf : List Operand → List Tmp
  | [] => []
  | .tmp t :: l => t :: tmpsOf l
  | _ :: l => tmpsOf l

def depT (ops : List Oper) (o : Oper) : List Tmp :=
  match guardTmp ops o with
  | some d => d :: tmpsOf o.op.operands.toList
  | none => tmpsOf o.op.operands.toList

def bitAt (bms : List Nat) (i j : Nat) : Bool := Nat.testBit (bms.getD i 0) j

/-- in this order all that binds stands before -/
def orderOk (sz : Nat) (bms : List Nat) : List Nat → Nat → Option Nat
  | [], done => some done
  | i :: l, done => match Nat.testBit done i, Nat.beq ((bms.getD i 0) &&& done) (bms.getD i 0), Nat.blt i sz with
    | false, true, true => orderOk sz bms l (done ||| (1 <<< i))
    | _, _, _ => none

def cover (m : Nat) : Nat → Bool
  | 0 => true
  | n + 1 => match Nat.testBit m n with | true => cover m n | false => false

/-- are the masks closed? -/
def closedOk (bms : List Nat) : List Oper → Nat → Bool
  | [], _ => true
  | o :: l, i => match Nat.beq (bms.getD i 0) (maskOf (predsOf o) ||| unionAt bms (predsOf o)) with
    | true => closedOk bms l (i + 1)
    | false => false

/-- who writes the temporary: before it · if `quiet`, behind it -/
def writersOk (bms : List Nat) (i : Nat) (strict : Bool) (t : Tmp) : List Oper → Nat → Bool
  | [], _ => true
  | o :: l, j => match o.dst with
    | none => writersOk bms i strict t l (j + 1)
    | some d => match Nat.beq d t with
      | false => writersOk bms i strict t l (j + 1)
      | true => match bitAt bms i j, strict with
        | true, _ => writersOk bms i strict t l (j + 1)
        | false, true => false
        | false, false => match bitAt bms j i, Nat.beq i j with
          | false, false => false
          | _, _ => writersOk bms i strict t l (j + 1)

def allWriters (bms : List Nat) (i : Nat) (strict : Bool) (ops : List Oper) : List Tmp → Bool
  | [] => true
  | t :: l => match writersOk bms i strict t ops 0 with
    | true => allWriters bms i strict ops l
    | false => false

def opsOk (E : Env) (bms : List Nat) (ops : List Oper) : List Oper → Nat → Bool
  | [], _ => true
  | o :: l, i => match allWriters bms i (Nat.beq (opCls E o.op) 1) ops (depT ops o) with
    | true => opsOk E bms ops l (i + 1)
    | false => false

def dstsOf : List Oper → List Tmp
  | [] => []
  | o :: l => match o.dst with | some d => d :: dstsOf l | none => dstsOf l

def nodupN : List Nat → Bool
  | [] => true
  | a :: l => match l.any (Nat.beq a) with | true => false | false => nodupN l

def plainStore (ops : List Oper) (i : Nat) : Bool :=
  match ops[i]? with
  | some o => match o.op, o.guard, o.dst with
    | .store .., none, none => true
    | _, _, _ => false
  | none => false

/-- what was read before: it stands before c, or is read again -/
def readsOk (E : Env) (bms : List Nat) (c : Nat) (rc : List Nat) (done : Nat) : List Oper → Nat → Bool
  | [], _ => true
  | o :: l, i => match Nat.beq (opCls E o.op) 1, Nat.testBit done i, bitAt bms c i, rc.any (Nat.beq i) with
    | true, true, false, false => false
    | _, _, _, _ => readsOk E bms c rc done l (i + 1)

def allAfter (bms : List Nat) (c : Nat) : List Nat → Bool
  | [] => true
  | i :: l => match bitAt bms i c with | true => allAfter bms c l | false => false

def addAll (done : Nat) : List Nat → Nat
  | [] => done
  | i :: l => addAll (done ||| (1 <<< i)) l

def chainOk (E : Env) (ops : List Oper) (bms : List Nat) : Nat → List Stage → Bool
  | _, [] => true
  | done, st :: l => match readsOk E bms st.c st.rc done ops 0 with
    | false => false
    | true => match st.sw with
      | false => match allAfter bms st.c (st.g ++ flatSt l) with
        | true => chainOk E ops bms (addAll (done ||| (1 <<< st.c)) st.g) l
        | false => false
      | true => match st.g, l with
        | [], [st2] => match st2.g, plainStore ops st.c, plainStore ops st2.c, readsOk E bms st.c [] done ops 0, readsOk E bms st2.c [] done ops 0, bitAt bms st.c st2.c, st2.sw with
          | [], true, true, true, true, false, false => match bitAt bms st2.c st.c with | true => false | false => true
          | _, _, _, _, _, _, _ => false
        | _, _ => false

structure Plan where
  bms : List Nat
  g : List Nat
  st : List Stage

def planOf (E : Env) (ops : List Oper) : Option Plan :=
  match befores ops [] with
  | bms => match mkStages (pops E ops bms 0) ops.length 0 [] with
    | none => none
    | some (g, st) => match orderOk ops.length bms (g ++ flatSt st) 0 with
      | none => none
      | some m => match cover m ops.length, closedOk bms ops 0, opsOk E bms ops ops 0, nodupN (dstsOf ops), chainOk E ops bms (addAll 0 g) st with
        | true, true, true, true, true => some ⟨bms, g, st⟩
        | _, _, _, _, _ => none

mutual
def veq : Value → Value → Bool
  | .bool a, .bool b => match a, b with | true, true => true | false, false => true | _, _ => false
  | .int k a, .int k' b => match decide (k = k') with | true => decide (a = b) | false => false
  | .string a, .string b => a == b
  | .pointer none, .pointer none => true
  | .pointer (some a), .pointer (some b) => decide (a = b)
  | .slice none a b, .slice none c d => match Nat.beq a c with | true => Nat.beq b d | false => false
  | .slice (some x) a b, .slice (some y) c d => match Nat.beq a c, Nat.beq b d with | true, true => decide (x = y) | _, _ => false
  | .map none, .map none => true
  | .map (some a), .map (some b) => Nat.beq a b
  | .complex k a b, .complex k' c d => match decide (k = k'), Nat.beq a c with | true, true => Nat.beq b d | _, _ => false
  | .float k a, .float k' b => match decide (k = k') with | true => Nat.beq a b | false => false
  | .nilFunc, .nilFunc => true
  | .nilIface, .nilIface => true
  | .iface t v, .iface u w => match Nat.beq t u with | true => veq v w | false => false
  | .func (.func f) a b, .func (.func g) c d => match Nat.beq f g, veqL a.toList c.toList with | true, true => veqL b.toList d.toList | _, _ => false
  | .agg a, .agg b => veqL a.toList b.toList
  | .tuple a, .tuple b => veqL a.toList b.toList
  | _, _ => false
def veqL : List Value → List Value → Bool
  | [], [] => true
  | a :: l, b :: m => match veq a b with | true => veqL l m | false => false
  | _, _ => false
end

/-- operations that change nothing but what they make -/
def agroup (E : Env) (ops : List Oper) : List Nat → S → Option S
  | [], s => some s
  | i :: l, s => match ops[i]? with
    | none => none
    | some o => match wantedA ops s.eval o with
      | false => agroup E ops l (s.put o.dst undef)
      | true => match opCls E o.op with
        | 0 | 1 => match aquiet E s.eval s.h o with
          | some v => agroup E ops l (s.put o.dst v)
          | none => none
        | 2 => match afresh E s.eval o, s.h.t.get s.h.next with
          | some (x, f), none => agroup E ops l (S.put ⟨s.tmps, s.defers, s.cm, s.h.new x⟩ o.dst (f s.h.next))
          | _, _ => none
        | _ => none

/-- what was read may be read behind it, too -/
def arecheck (E : Env) (ops : List Oper) (s : S) : List Nat → Bool
  | [] => true
  | i :: l => match ops[i]? with
    | none => false
    | some o => match wantedA ops s.eval o with
      | false => arecheck E ops s l
      | true => match aquiet E s.eval s.h o, o.dst with
        | some v, some d => match veq v (s.eval (.tmp d)) with
          | true => arecheck E ops s l
          | false => false
        | _, _ => false

/-- the places a store turns: block, first cell, number of cells, and the block that dies of it -/
def storeAt (E : Env) (ρ : Operand → Value) (h : H) (o : Oper) : Option (Nat × Nat × Nat × Option Nat) :=
  match o.op with
  | .store t p _ => match ρ p, E.size t with
    | .pointer (some ⟨b, i, none⟩), some n => match h.obj b with
      | .cells _ _ _ tw => some (b, i, n, tw.t)
      | _ => none
    | _, _ => none
  | _ => none

def twinIs : Option Nat → Nat → Bool
  | some t, b => Nat.beq t b
  | none, _ => false

/-- two stores that may change places -/
def aswap (E : Env) (ops : List Oper) (s : S) (c1 c2 : Nat) : Bool :=
  match ops[c1]?, ops[c2]? with
  | some o1, some o2 => match storeAt E s.eval s.h o1, storeAt E s.eval s.h o2 with
    | some (b, i, n, t), some (b', i', n', t') => match Nat.beq b b' with
      | true => match Nat.ble (i + n) i' with
        | true => true
        | false => Nat.ble (i' + n') i
      | false => match twinIs t b', twinIs t' b with
        | false, false => true
        | _, _ => false
    | _, _ => false
  | _, _ => false

/-! ### rounds of a range over a function -/

/-- operations that give values, in order -/
def astr (E : Env) (ops : List Oper) : List Oper → S → Option S
  | [], s => some s
  | o :: rest, s => match wantedA ops s.eval o with
    | false => astr E ops rest (s.put o.dst undef)
    | true => match aop E s.eval s.h o with
      | some (.value v h) => astr E ops rest (S.put ⟨s.tmps, s.defers, s.cm, h⟩ o.dst v)
      | _ => none

def astraight (E : Env) : Code → S → Option S
  | .skip, s => some s
  | .region _ ops false, s => astr E ops.toList ops.toList s
  | .seq a b, s => match astraight E a s with
    | some s => astraight E b s
    | none => none
  | .block _ b, s => astraight E b s
  | _, _ => none

def putParams (t : T Value) : List Tmp → List Value → Option (T Value)
  | [], [] => some t
  | p :: ps, v :: vs => putParams (t.put p v) ps vs
  | _, _ => none

/-- one round: the loop's body on what is yielded -/
def around (E : Env) (L : Nat) (args : List Value) (h : H) : Option H :=
  match h.obj L with
  | .loop true tm params assign body => match straightOpn E.ng assign, straightOpn E.ng body, putParams tm params args with
    | true, true, some t => match astraight E assign ⟨t, [], .run, h⟩ with
      | some s1 => match s1.h.obj L with
        | .loop true tm2 ps2 as2 bd2 => match astraight E body ⟨s1.tmps, s1.defers, s1.cm, s1.h.upd L (.loop false tm2 ps2 as2 bd2)⟩ with
          | some s2 => match s2.h.obj L with
            | .loop false tm3 ps3 as3 bd3 => some (s2.h.upd L (.loop true tm3 ps3 as3 bd3))
            | _ => none
          | none => none
        | _ => none
      | none => none
    | _, _, _ => none
  | _ => none

/-- a loud operation in a region that draws -/
def cop (E : Env) (call : FuncId → Array Value → H → Option (Res × FrameMode × H)) (ops : List Oper) (o : Oper) (s : S) : Option S :=
  match wantedA ops s.eval o with
  | false => some (s.put o.dst undef)
  | true => match aop E s.eval s.h o with
    | some (.value v h) => some (S.put ⟨s.tmps, s.defers, s.cm, h⟩ o.dst v)
    | some (.enter f args) => match call f args s.h with
      | some (.ret v, _, h) => some (S.put ⟨s.tmps, s.defers, s.cm, h⟩ o.dst v)
      | _ => none
    | _ => none

/-- may the next stage stand before this one? then it is to be seen that it makes no difference -/
def swapOk (E : Env) (ops : List Oper) (s : S) (st : Stage) (rest : List Stage) : Bool :=
  match st.sw, rest with
  | true, st2 :: _ => aswap E ops s st.c st2.c
  | true, [] => false
  | false, _ => true

mutual
def aexec (E : Env) : Nat → Code → S → Option (Exit × S)
  | 0, _, _ => none
  | n + 1, c, s => match c with
    | .skip => some (.normal, s)
    | .label _ => some (.normal, s)
    | .region _ ops false => aops E n ops.toList ops.toList s
    | .region _ ops true => match planOf E ops.toList with
      | some p => match agroup E ops.toList p.g s with
        | some s1 => match astages E n ops.toList p.st s1 with
          | some s' => some (.normal, s')
          | none => none
        | none => none
      | none => none
    | .seq a b => match aexec E n a s with
      | some (.normal, s') => aexec E n b s'
      | r => r
    | .cond c a b => match s.eval c with
      | .bool true => aexec E n a s
      | .bool false => aexec E n b s
      | _ => none
    | .block id b => match aexec E n b s with
      | some (.exit id', s') => match Nat.beq id' id with
        | true => some (.normal, s')
        | false => some (.exit id', s')
      | r => r
    | .loop b => match aexec E n b s with
      | some (.normal, s') => aexec E n (.loop b) s'
      | r => r
    | .scope b => aexec E n b s
    | .exit id => some (.exit id, s)
    | .ret => some (.ret, s)
    | .rangeFunc f params assign body => match s.eval f with
      | .func (.func fid) first cap => match acall E n fid (first ++ #[.func (.yield (s.h.next + 1)) #[] #[]] ++ cap) .run ((s.h.new .dfr).new (.loop true s.tmps params.toList assign body)) with
        | some (.ret _, _, h2) => match h2.obj (s.h.next + 1) with
          | .loop true .. => some (.normal, ⟨s.tmps, { target := .collected s.h.next, args := #[] } :: s.defers, s.cm, h2.upd (s.h.next + 1) .dead⟩)
          | _ => none
        | _ => none
      | _ => none
    | _ => none

def aops (E : Env) : Nat → List Oper → List Oper → S → Option (Exit × S)
  | 0, _, _, _ => none
  | _ + 1, _, [], s => some (.normal, s)
  | n + 1, ops, o :: rest, s => match wantedA ops s.eval o with
    | false => aops E n ops rest (s.put o.dst undef)
    | true => match aop E s.eval s.h o with
      | some (.value v h) => aops E n ops rest (S.put ⟨s.tmps, s.defers, s.cm, h⟩ o.dst v)
      | some (.enter f args) => match acall E n f args .run s.h with
        | some (.ret v, _, h) => aops E n ops rest (S.put ⟨s.tmps, s.defers, s.cm, h⟩ o.dst v)
        | some (.pan ch, _, h) => some (.panic ch, ⟨s.tmps, s.defers, s.cm, h⟩)
        | none => none
      | some (.panic v) => some (.panic [{ v, recovered := false }], s)
      | some (.defer d) => aops E n ops rest (S.put ⟨s.tmps, d :: s.defers, s.cm, s.h⟩ o.dst undef)
      | some .recover => match s.cm with
        | .panicking ({ v, recovered := false, goexit := false } :: older) =>
          aops E n ops rest (S.put ⟨s.tmps, s.defers, .panicking ({ v, recovered := true } :: older), s.h⟩ o.dst v)
        | _ => aops E n ops rest (s.put o.dst .nilIface)
      | some (.round L args) => match around E L args s.h with
        | some h => aops E n ops rest (S.put ⟨s.tmps, s.defers, s.cm, h⟩ o.dst (.bool true))
        | none => none
      | none => none

def astages (E : Env) : Nat → List Oper → List Stage → S → Option S
  | 0, _, _, _ => none
  | _ + 1, _, [], s => some s
  | n + 1, ops, st :: rest, s => match ops[st.c]? with
    | none => none
    | some o => match swapOk E ops s st rest with
      | false => none
      | true => match cop E (fun f args h => acall E n f args .run h) ops o s with
        | none => none
        | some s => match arecheck E ops s st.rc with
          | false => none
          | true => match agroup E ops st.g s with
            | none => none
            | some s => astages E n ops rest s

def acall (E : Env) : Nat → FuncId → Array Value → FrameMode → H → Option (Res × FrameMode × H)
  | 0, _, _, _, _ => none
  | n + 1, f, args, cm, h => match E.fn.get f with
    | some fn => match fn.body with
      | some c => match askO E f args cm h with
        | some (r, h') => some (r, cm, h')
        | none => match aexec E n c ⟨T.ofList args.toList, [], cm, h⟩ with
          | some (.normal, s) => aleave E n fn s.defers .returning s
          | some (.ret, s) => aleave E n fn s.defers .returning s
          | some (.panic ch, s) => aleave E n fn s.defers (.panicking ch) s
          | _ => none
      | none => none
    | none => none

def aleave (E : Env) : Nat → Func → List Deferred → FrameMode → S → Option (Res × FrameMode × H)
  | 0, _, _, _, _ => none
  | _ + 1, fn, [], .returning, s => match aresults E s fn.results.toList with
    | some l => some (.ret (oneOrTuple l), s.cm, s.h)
    | none => none
  | _ + 1, _, [], .panicking ch, s => some (.pan ch, s.cm, s.h)
  | _ + 1, _, _ :: _, .run, _ => none
  | n + 1, fn, d :: ds, u, s => match d.target with
    | .fn (.func f) cap => match acall E n f (d.args ++ cap) u s.h with
      | some (.ret _, u', h) => aleave E n fn ds (settle u') ⟨s.tmps, s.defers, s.cm, h⟩
      | some (.pan ch, u', h) => aleave E n fn ds (raised u' ch) ⟨s.tmps, s.defers, s.cm, h⟩
      | none => none
    | .collected r => match s.h.obj r with
      | .dfr => aleave E n fn ds u ⟨s.tmps, s.defers, s.cm, s.h.upd r .dead⟩
      | _ => none
    | _ => none
  | _, _, _, _, _ => none
end

end
end Go.AX

/- What an abstract heap says of a world, by a partial map of block numbers. -/
namespace Go.AX

/-! ### trees -/
theorem T.get_set {α : Type} (f : Nat) : ∀ (t : T α) (i : Nat) (x : Option α) (j : Nat), i < f → (T.set f t i x).get j = if i = j then x else t.get j := by
  induction f with
  | zero => intro t i x j h; omega
  | succ f ih =>
    intro t i x j h
    have key : ∀ (l : T α) (v : Option α) (r : T α), (match i with
        | 0 => T.n l x r
        | i + 1 => match i % 2 with
          | 0 => T.n (T.set f l (i / 2) x) v r
          | _ + 1 => T.n l v (T.set f r (i / 2) x)).get j = if i = j then x else (T.n l v r).get j := by
      intro l v r
      cases i with
      | zero => cases j with
        | zero => simp [T.get_n, T.get_e]
        | succ j => simp [T.get_n, T.get_e]
      | succ i =>
        have hi : i / 2 < f := by omega
        cases j with
        | zero => dsimp only; split <;> simp [T.get_n, T.get_e]
        | succ j =>
          have e : (i + 1 = j + 1) ↔ (i / 2 = j / 2 ∧ i % 2 = j % 2) := by omega
          dsimp only
          split
          · rename_i h0
            simp only [T.get_n, T.get_e]
            split
            · rename_i h1
              rw [ih _ _ _ _ hi]
              simp only [e, h0, h1, and_true]
            · rename_i h1
              rw [if_neg (by omega)]
          · rename_i h0
            simp only [T.get_n, T.get_e]
            split
            · rename_i h1
              rw [if_neg (by omega)]
            · rename_i h1
              rw [ih _ _ _ _ hi]
              have : i + 1 = j + 1 ↔ i / 2 = j / 2 := by omega
              simp only [this]
    cases t with
    | e =>
      have := key .e none .e
      have e0 : (T.n (.e : T α) none .e).get j = (T.e : T α).get j := by cases j <;> simp only [T.get_n, T.get_e]; split <;> rfl
      rw [e0] at this
      rw [T.set_e]
      exact this
    | n l v r => rw [T.set_n]; exact key l v r

theorem T.get_put {α : Type} (t : T α) (i : Nat) (x : α) (j : Nat) : (t.put i x).get j = if i = j then some x else t.get j :=
  T.get_set _ _ _ _ _ (Nat.lt_succ_self _)

theorem T.get_putList {α : Type} (l : List α) : ∀ (t : T α) (i j : Nat), (t.putList i l).get j = if i ≤ j ∧ j < i + l.length then l[j - i]? else t.get j := by
  induction l with
  | nil => intro t i j; simp [T.putList]; intro h; omega
  | cons x xs ih =>
    intro t i j
    simp only [T.putList, ih, T.get_put, List.length_cons]
    by_cases h : i = j
    · subst h
      simp [show ¬ (i + 1 ≤ i ∧ i < i + 1 + xs.length) by omega]
    · simp only [h, if_false]
      by_cases h2 : i + 1 ≤ j ∧ j < i + 1 + xs.length
      · rw [if_pos h2, if_pos (by omega), show j - i = (j - (i + 1)) + 1 by omega, List.getElem?_cons_succ]
      · rw [if_neg h2, if_neg (by omega)]

theorem alt_get {α : Type} : ∀ (l : List α) (k : Nat), (alt l true)[k]? = l[2 * k]? ∧ (alt l false)[k]? = l[2 * k + 1]?
  | [], k => ⟨rfl, rfl⟩
  | x :: xs, k => by
    have h := alt_get xs
    have e1 : alt (x :: xs) true = x :: alt xs false := rfl
    have e2 : alt (x :: xs) false = alt xs true := rfl
    rw [e1, e2]
    refine ⟨?_, ?_⟩
    · cases k with
      | zero => rfl
      | succ k => rw [List.getElem?_cons_succ, (h k).2, show 2 * (k + 1) = (2 * k + 1) + 1 by omega, List.getElem?_cons_succ]
    · rw [(h k).1, List.getElem?_cons_succ]

theorem alt_length {α : Type} : ∀ (l : List α) (b : Bool), (alt l b).length ≤ l.length
  | [], _ => Nat.le_refl _
  | x :: xs, true => by
    have : alt (x :: xs) true = x :: alt xs false := rfl
    rw [this]; have := alt_length xs false; simp; omega
  | x :: xs, false => by
    have : alt (x :: xs) false = alt xs true := rfl
    rw [this]; have := alt_length xs true; simp; omega

theorem T.get_bulk {α : Type} : ∀ (f : Nat) (l : List α) (j : Nat), l.length ≤ f → (T.bulk f l).get j = l[j]?
  | 0, l, j, h => by
    have : l = [] := by cases l with | nil => rfl | cons => simp at h
    subst this
    rfl
  | f + 1, [], j, _ => rfl
  | f + 1, x :: xs, j, h => by
    have e : T.bulk (f + 1) (x :: xs) = .n (T.bulk f (alt xs true)) (some x) (T.bulk f (alt xs false)) := rfl
    rw [e, T.get_n]
    simp only [List.length_cons] at h
    have h1 := alt_length xs true
    have h2 := alt_length xs false
    cases j with
    | zero => rfl
    | succ j =>
      dsimp only
      rw [List.getElem?_cons_succ]
      rcases Nat.mod_two_eq_zero_or_one j with hp | hp
      · rw [hp]; dsimp only
        rw [T.get_bulk f _ _ (by omega), (alt_get xs _).1, show 2 * (j / 2) = j by omega]
      · rw [hp]; dsimp only
        rw [T.get_bulk f _ _ (by omega), (alt_get xs _).2, show 2 * (j / 2) + 1 = j by omega]

theorem T.get_ofList {α : Type} (l : List α) (j : Nat) : (T.ofList l).get j = l[j]? := T.get_bulk _ l j (Nat.le_refl _)

/-! ### heaps -/
theorem H.obj_upd (h : H) (b : Nat) (o : AObj) (j : Nat) : (h.upd b o).obj j = if b = j then o else h.obj j := by
  simp only [H.obj, H.upd, T.get_put]
  by_cases e : b = j <;> simp [e]
theorem H.obj_new (h : H) (o : AObj) (j : Nat) : (h.new o).obj j = if h.next = j then o else h.obj j := by
  simp only [H.obj, H.new, T.get_put]
  by_cases e : h.next = j <;> simp [e]
@[simp] theorem H.next_upd (h : H) (b : Nat) (o : AObj) : (h.upd b o).next = h.next := rfl
@[simp] theorem H.next_new (h : H) (o : AObj) : (h.new o).next = h.next + 1 := rfl
@[simp] theorem H.next_kill (h : H) (t : Option Nat) : (h.kill t).next = h.next := by cases t <;> rfl
theorem H.obj_kill (h : H) (t : Option Nat) (j : Nat) : (h.kill t).obj j = if t = some j then .dead else h.obj j := by
  cases t with
  | none => simp [H.kill]
  | some b => simp only [H.kill, H.obj_upd, Option.some.injEq]

/-! ### values -/
structure M where
  B : Nat
  o : Nat
  room : Nat

abbrev Mu := Nat → Option M

mutual
inductive VR (μ : Mu) : Value → Value → Prop
  | bool (b : Bool) : VR μ (.bool b) (.bool b)
  | int (k : IntKind) (n : Int) : VR μ (.int k n) (.int k n)
  | float (k : FloatKind) (n : Nat) : VR μ (.float k n) (.float k n)
  | complex (k : FloatKind) (a b : Nat) : VR μ (.complex k a b) (.complex k a b)
  | string (s : ByteArray) : VR μ (.string s) (.string s)
  | nilPtr : VR μ (.pointer none) (.pointer none)
  | ptr {b i : Nat} {m : M} (h : μ b = some m) : VR μ (.pointer (some ⟨b, i, none⟩)) (.pointer (some ⟨m.B, m.o + i, none⟩))
  | nilSlice : VR μ (.slice none 0 0) (.slice none 0 0)
  | slice {b i len w cap : Nat} {m : M} (h : μ b = some m) (hr : cap * (w + 1) + i = m.room) (hl : len ≤ cap) :
      VR μ (.slice (some ⟨b, i, none⟩) len (w + 1)) (.slice (some ⟨m.B, m.o + i, none⟩) len cap)
  | slice0 {b i z : Nat} {A : Addr} (h : z = 0 ∨ ∃ m, μ b = some m ∧ i = m.room) : VR μ (.slice (some ⟨b, i, none⟩) 0 z) (.slice (some A) 0 0)
  | nilMap : VR μ (.map none) (.map none)
  | map {r : Nat} {m : M} (h : μ r = some m) : VR μ (.map (some r)) (.map (some m.B))
  | func {f : FuncId} {a a' c c' : Array Value} (ha : VRL μ a.toList a'.toList) (hc : VRL μ c.toList c'.toList) : VR μ (.func (.func f) a c) (.func (.func f) a' c')
  | yield {L l : Nat} (h : μ L = some ⟨l, 0, 0⟩) : VR μ (.func (.yield L) #[] #[]) (.func (.yield l) #[] #[])
  | nilFunc : VR μ .nilFunc .nilFunc
  | nilIface : VR μ .nilIface .nilIface
  | iface {t : TypeId} {v v' : Value} (h : VR μ v v') : VR μ (.iface t v) (.iface t v')
  | agg {a a' : Array Value} (h : VRL μ a.toList a'.toList) : VR μ (.agg a) (.agg a')
  | tuple {a a' : Array Value} (h : VRL μ a.toList a'.toList) : VR μ (.tuple a) (.tuple a')
inductive VRL (μ : Mu) : List Value → List Value → Prop
  | nil : VRL μ [] []
  | cons {v v' : Value} {l l' : List Value} (h : VR μ v v') (t : VRL μ l l') : VRL μ (v :: l) (v' :: l')
end

def Mu.le (μ μ' : Mu) : Prop := ∀ b m, μ b = some m → μ' b = some m

mutual
theorem VR.mono {μ μ' : Mu} (hm : μ.le μ') : ∀ {v v' : Value}, VR μ v v' → VR μ' v v'
  | _, _, .bool b => .bool b
  | _, _, .int k n => .int k n
  | _, _, .float k n => .float k n
  | _, _, .complex k a b => .complex k a b
  | _, _, .string s => .string s
  | _, _, .nilPtr => .nilPtr
  | _, _, .ptr h => .ptr (hm _ _ h)
  | _, _, .nilSlice => .nilSlice
  | _, _, .slice h hr hl => .slice (hm _ _ h) hr hl
  | _, _, .slice0 h => .slice0 (h.imp id fun ⟨m, a, b⟩ => ⟨m, hm _ _ a, b⟩)
  | _, _, .nilMap => .nilMap
  | _, _, .map h => .map (hm _ _ h)
  | _, _, .func ha hc => .func (VRL.mono hm ha) (VRL.mono hm hc)
  | _, _, .yield h => .yield (hm _ _ h)
  | _, _, .nilFunc => .nilFunc
  | _, _, .nilIface => .nilIface
  | _, _, .iface h => .iface (VR.mono hm h)
  | _, _, .agg h => .agg (VRL.mono hm h)
  | _, _, .tuple h => .tuple (VRL.mono hm h)
theorem VRL.mono {μ μ' : Mu} (hm : μ.le μ') : ∀ {l l' : List Value}, VRL μ l l' → VRL μ' l l'
  | _, _, .nil => .nil
  | _, _, .cons h t => .cons (VR.mono hm h) (VRL.mono hm t)
end

theorem Mu.le_refl (μ : Mu) : μ.le μ := fun _ _ h => h
theorem Mu.le_trans {a b c : Mu} (h : a.le b) (k : b.le c) : a.le c := fun _ _ x => k _ _ (h _ _ x)

theorem VRL.length {μ : Mu} : ∀ {l l' : List Value}, VRL μ l l' → l.length = l'.length
  | _, _, .nil => rfl
  | _, _, .cons _ t => by simp [VRL.length t]

theorem VRL.get {μ : Mu} : ∀ {l l' : List Value}, VRL μ l l' → ∀ {i : Nat} {v : Value}, l[i]? = some v → ∃ v', l'[i]? = some v' ∧ VR μ v v'
  | _, _, .nil, i, v, h => by simp at h
  | _, _, .cons h t, 0, v, hv => by simp at hv; subst hv; exact ⟨_, by simp, h⟩
  | _, _, .cons h t, i + 1, v, hv => by simp at hv; obtain ⟨v', a, b⟩ := VRL.get t hv; exact ⟨v', by simpa using a, b⟩

theorem VRL.append {μ : Mu} : ∀ {a a' b b' : List Value}, VRL μ a a' → VRL μ b b' → VRL μ (a ++ b) (a' ++ b')
  | _, _, _, _, .nil, h => h
  | _, _, _, _, .cons x t, h => .cons x (VRL.append t h)

theorem VRL.take {μ : Mu} : ∀ {a a' : List Value} (n : Nat), VRL μ a a' → VRL μ (a.take n) (a'.take n)
  | _, _, _, .nil => by simp; exact .nil
  | _, _, 0, .cons _ _ => .nil
  | _, _, n + 1, .cons x t => .cons x (VRL.take n t)

theorem VRL.drop {μ : Mu} : ∀ {a a' : List Value} (n : Nat), VRL μ a a' → VRL μ (a.drop n) (a'.drop n)
  | _, _, _, .nil => by simp; exact .nil
  | _, _, 0, .cons x t => .cons x t
  | _, _, n + 1, .cons _ t => VRL.drop n t

theorem VRL.repl {μ : Mu} {z z' : List Value} (h : VRL μ z z') : ∀ n, VRL μ (repl z n) (repl z' n)
  | 0 => .nil
  | n + 1 => VRL.append h (VRL.repl h n)

theorem VRL.map {μ : Mu} {α : Type} {f g : α → Value} : ∀ (l : List α), (∀ x ∈ l, VR μ (f x) (g x)) → VRL μ (l.map f) (l.map g)
  | [], _ => .nil
  | a :: l, h => .cons (h a (by simp)) (VRL.map l fun x hx => h x (by simp [hx]))

mutual
theorem flat_refl (μ : Mu) : ∀ (v : Value), flat v = true → VR μ v v
  | .bool b, _ => .bool b
  | .int k n, _ => .int k n
  | .float k n, _ => .float k n
  | .complex k a b, _ => .complex k a b
  | .string s, _ => .string s
  | .nilIface, _ => .nilIface
  | .nilFunc, _ => .nilFunc
  | .pointer none, _ => .nilPtr
  | .pointer (some _), h => by simp [flat] at h
  | .slice none 0 0, _ => .nilSlice
  | .slice none 0 (_ + 1), h => by simp [flat] at h
  | .slice none (_ + 1) _, h => by simp [flat] at h
  | .slice (some _) _ _, h => by simp [flat] at h
  | .map none, _ => .nilMap
  | .map (some _), h => by simp [flat] at h
  | .chan _, h => by simp [flat] at h
  | .func fn a b, h => by
    cases fn with
    | func f =>
      simp only [flat] at h
      split at h
      · rename_i ha; exact .func (flatL_refl μ _ ha) (flatL_refl μ _ h)
      · simp at h
    | _ => simp [flat] at h
  | .iface t v, h => .iface (flat_refl μ v (by simpa [flat] using h))
  | .agg cs, h => .agg (flatL_refl μ cs.toList (by simpa [flat] using h))
  | .tuple cs, h => .tuple (flatL_refl μ cs.toList (by simpa [flat] using h))
theorem flatL_refl (μ : Mu) : ∀ (l : List Value), flatL l = true → VRL μ l l
  | [], _ => .nil
  | v :: vs, h => by
    simp only [flatL] at h
    split at h
    · rename_i hv; exact .cons (flat_refl μ v hv) (flatL_refl μ vs h)
    · simp at h
end

mutual
theorem flat_eq {μ : Mu} : ∀ {v v' : Value}, VR μ v v' → flat v = true → v' = v
  | _, _, .bool b, _ => rfl
  | _, _, .int k n, _ => rfl
  | _, _, .float k n, _ => rfl
  | _, _, .complex k a b, _ => rfl
  | _, _, .string s, _ => rfl
  | _, _, .nilPtr, _ => rfl
  | _, _, .ptr h, hf => by simp [flat] at hf
  | _, _, .nilSlice, _ => rfl
  | _, _, .slice h hr hl, hf => by simp [flat] at hf
  | _, _, .slice0 h, hf => by simp [flat] at hf
  | _, _, .nilMap, _ => rfl
  | _, _, .map h, hf => by simp [flat] at hf
  | _, _, .func ha hc, hf => by
    simp only [flat] at hf
    split at hf
    · rename_i h1
      have e1 := flatL_eq ha h1
      have e2 := flatL_eq hc hf
      rw [Array.ext' e1, Array.ext' e2]
    · simp at hf
  | _, _, .yield h, hf => by simp [flat] at hf
  | _, _, .nilFunc, _ => rfl
  | _, _, .nilIface, _ => rfl
  | _, _, .iface h, hf => by rw [flat_eq h (by simpa [flat] using hf)]
  | _, _, .agg h, hf => by rw [Array.ext' (flatL_eq h (by simpa [flat] using hf))]
  | _, _, .tuple h, hf => by rw [Array.ext' (flatL_eq h (by simpa [flat] using hf))]
theorem flatL_eq {μ : Mu} : ∀ {l l' : List Value}, VRL μ l l' → flatL l = true → l' = l
  | _, _, .nil, _ => rfl
  | _, _, .cons h t, hf => by
    simp only [flatL] at hf
    split at hf
    · rename_i hv; rw [flat_eq h hv, flatL_eq t hf]
    · simp at hf
end

theorem VR.cells {μ : Mu} {v v' : Value} (h : VR μ v v') : VRL μ v.cells.toList v'.cells.toList := by
  cases h with
  | agg h => exact h
  | _ => simp only [Value.cells]; exact .cons (by constructor <;> assumption) .nil

theorem VR.oneCell {μ : Mu} {v v' : Value} (h : VR μ v v') : oneCell v = v'.oneCell' := by cases h <;> rfl

theorem VRL.oneCells {μ : Mu} : ∀ {l l' : List Value}, VRL μ l l' → AX.oneCells l = true → ∀ v ∈ l', v.oneCell' = true
  | _, _, .nil, _, v, hv => by simp at hv
  | _, _, .cons h t, ho, v, hv => by
    simp only [AX.oneCells] at ho
    split at ho
    · rename_i h1
      simp at hv
      rcases hv with rfl | hv
      · rw [← h.oneCell]; exact h1
      · exact VRL.oneCells t ho v hv
    · simp at ho

/-! ### memory -/
/-- a row's type; a row of known room stands at its block's begin and fills it -/
def Typ (m : M) (w : World) (n : Nat) (cap : Cap) (t : TypeId) : Prop := ∃ cs fz, w.heap[m.B]? = some (.cells cs t fz) ∧ (cap = .exact → m.o = 0 ∧ cs.size = n)

def OR (μ : Mu) (m : M) (w : World) : AObj → Prop
  | .dead => True
  | .cells c n cap tw => n ≤ m.room ∧ ((cap = .exact → n = m.room) ∧ Typ m w n cap tw.el) ∧ ∃ cs el fz, w.heap[m.B]? = some (.cells cs el fz) ∧ m.o + m.room ≤ cs.size ∧
      (cap = .stale ∨ fz.1 = fz.2 ∨ cs.size ≤ fz.1) ∧ ∀ i v, i < n → c.get i = some v → ∃ v', cs[m.o + i]? = some v' ∧ VR μ v v'
  | .map es => ∃ ents clock, w.heap[m.B]? = some (.map ents clock) ∧ VRL μ (es.map (·.2)) (ents.toList.map (·.val)) ∧ es.map (·.1) = ents.toList.map (·.key)
  | .iter l pos => m.o = 0 ∧ w.heap[m.B]? = some (.stringIter ⟨l.toArray⟩ pos)
  | .loop ready tm params assign body => ∃ fn tm' d N, w.heap[m.B]? = some (.loop { state := if ready then .ready else .busy, pending := none, fn, tmps := tm', params := params.toArray, assign, body, defers := d }) ∧
      N ≤ tm'.size ∧ straightDst N assign = true ∧ straightDst N body = true ∧ (∀ p ∈ params, p < N) ∧ ∀ t, VR μ (match tm.get t with | some v => v | none => undef) (tm'.getD t undef)
  | .dfr => w.heap[m.B]? = some (.deferred (some []))

def RO : AObj → Prop
  | .dead => True
  | .cells _ _ .stale _ => True
  | _ => False

def AObj.twin : AObj → Option Nat
  | .cells _ _ _ t => t.t
  | _ => none

structure HR (μ : Mu) (h : H) (w : World) : Prop where
  lt : ∀ b m, μ b = some m → b < h.next
  ok : ∀ b m, μ b = some m → OR μ m w (h.obj b)
  apart : ∀ b b' m m', μ b = some m → μ b' = some m' → b ≠ b' → m.B = m'.B → ¬ RO (h.obj b) → h.obj b' = .dead ∨ (h.obj b).twin = some b'
  tw : ∀ b m t, μ b = some m → (h.obj b).twin = some t → ∃ mt, μ t = some mt

structure Keep (μ : Mu) (h : H) (w w' : World) : Prop where
  os : w'.os = w.os
  tape : w'.tape = w.tape
  output : w'.output = w.output
  size : w.heap.size ≤ w'.heap.size
  block : ∀ B, B < w.heap.size → (∀ b m, μ b = some m → m.B = B → RO (h.obj b)) → w'.heap[B]? = w.heap[B]?

structure Ext (μ : Mu) (h : H) (w : World) (μ' : Mu) (h' : H) (w' : World) : Prop where
  sub : μ.le μ'
  new : ∀ b m, μ' b = some m → μ b = some m ∨ (h.next ≤ b ∧ (w.heap.size ≤ m.B ∨ ∃ b0 m0, μ b0 = some m0 ∧ m0.B = m.B ∧ ¬ RO (h.obj b0)))
  ro : ∀ b, b < h.next → RO (h.obj b) → RO (h'.obj b)
  next : h.next ≤ h'.next
  quiet : ∀ b, b < h.next → μ b = none → h'.obj b = h.obj b
  keep : Keep μ h w w'

theorem Keep.refl (μ : Mu) (h : H) (w : World) : Keep μ h w w := ⟨rfl, rfl, rfl, Nat.le_refl _, fun _ _ _ => rfl⟩

theorem Ext.refl (μ : Mu) (h : H) (w : World) : Ext μ h w μ h w :=
  ⟨Mu.le_refl _, fun _ _ h => .inl h, fun _ _ h => h, Nat.le_refl _, fun _ _ _ => rfl, Keep.refl _ _ _⟩

theorem Ext.trans {μ μ1 μ2 : Mu} {h h1 h2 : H} {w w1 w2 : World} (lt : ∀ b m, μ b = some m → b < h.next) (a : Ext μ h w μ1 h1 w1) (b : Ext μ1 h1 w1 μ2 h2 w2) : Ext μ h w μ2 h2 w2 where
  sub := Mu.le_trans a.sub b.sub
  new := by
    intro x m hx
    rcases b.new x m hx with h0 | ⟨hn, h0⟩
    · exact a.new x m h0
    · refine .inr ⟨Nat.le_trans a.next hn, ?_⟩
      rcases h0 with h0 | ⟨b0, m0, e0, eB, hro⟩
      · exact .inl (Nat.le_trans a.keep.size h0)
      · rcases a.new b0 m0 e0 with e1 | ⟨_, e1⟩
        · exact .inr ⟨b0, m0, e1, eB, fun hr => hro (a.ro _ (lt _ _ e1) hr)⟩
        · rcases e1 with e1 | ⟨b1, m1, e2, e3, e4⟩
          · exact .inl (eB ▸ e1)
          · exact .inr ⟨b1, m1, e2, e3.trans eB, e4⟩
  ro := fun x hx hr => b.ro x (Nat.lt_of_lt_of_le hx a.next) (a.ro x hx hr)
  next := Nat.le_trans a.next b.next
  quiet := by
    intro x hx hn
    have e1 := a.quiet x hx hn
    have hn1 : μ1 x = none := by
      cases hm : μ1 x with
      | none => rfl
      | some m =>
        rcases a.new x m hm with h0 | ⟨h0, _⟩
        · rw [hn] at h0; cases h0
        · omega
    rw [b.quiet x (Nat.lt_of_lt_of_le hx a.next) hn1, e1]
  keep := {
    os := b.keep.os.trans a.keep.os
    tape := b.keep.tape.trans a.keep.tape
    output := b.keep.output.trans a.keep.output
    size := Nat.le_trans a.keep.size b.keep.size
    block := by
      intro B hB hro
      rw [b.keep.block B (Nat.lt_of_lt_of_le hB a.keep.size) ?_, a.keep.block B hB hro]
      intro x m hx eB
      rcases a.new x m hx with h0 | ⟨_, h0⟩
      · exact a.ro x (lt _ _ h0) (hro x m h0 eB)
      · rcases h0 with h0 | ⟨b0, m0, e0, e1, e2⟩
        · omega
        · exact absurd (hro b0 m0 e0 (e1.trans eB)) e2 }

end Go.AX

/- Operations that leave memory as it is: what the evaluator says of one, the model does. -/
namespace Go.AX

structure EnvOk (E : Env) : Prop where
  ty : ∀ t ti, E.ty.get t = some ti → E.P.info? t = some ti.info ∧ E.P.underlying t = some ti.u
  fn : ∀ f x, E.fn.get f = some x → E.P.funcs[f]? = some x
  zero : ∀ t ti z, E.ty.get t = some ti → ti.info.zero = some z → flat z = true

theorem extract_list (s : ByteArray) (l h : Nat) : s.extract l h = ⟨((s.data.toList.drop l).take (h - l)).toArray⟩ := by
  ext1
  rw [ByteArray.data_extract]
  apply Array.toList_inj.1
  simp [Array.toList_extract, List.extract_eq_take_drop]

section
variable {E : Env} (hE : EnvOk E) {μ : Mu} {h : H} {w : World}
include hE

theorem run_und {t : TypeId} {d : TypeDesc} (e : E.und t = some d) (w : World) : (underlying t).run E.P w = .ok d w := by
  unfold Env.und at e
  split at e
  · rename_i ti he
    cases e
    exact run_underlying (hE.ty _ _ he).2 w
  · cases e

theorem run_info {t : TypeId} {ti : TI} (e : E.ty.get t = some ti) (w : World) : (typeInfo t).run E.P w = .ok ti.info w := by
  simp [typeInfo, (hE.ty _ _ e).1]

theorem run_size {t : TypeId} {n : Nat} (e : E.size t = some n) (w : World) : (sizeOf t).run E.P w = .ok n w := by
  unfold Env.size at e
  split at e
  · rename_i ti he
    cases e
    simp [sizeOf, run_info hE he]
  · cases e

theorem run_size' {t : TypeId} {ti : TI} (e : E.ty.get t = some ti) (w : World) : (sizeOf t).run E.P w = .ok ti.info.size w := by
  simp [sizeOf, run_info hE e]

theorem run_zero' {t : TypeId} {ti : TI} {z : Value} (e : E.ty.get t = some ti) (hz : ti.info.zero = some z) (w : World) : (zeroValue t).run E.P w = .ok z w := by
  simp [zeroValue, run_info hE e, hz]

theorem run_zero {t : TypeId} {z : Value} (e : E.zero t = some z) (w : World) : (zeroValue t).run E.P w = .ok z w := by
  unfold Env.zero at e
  split at e
  · rename_i ti he
    exact run_zero' hE he e w
  · cases e

theorem zero_flat {t : TypeId} {z : Value} (e : E.zero t = some z) : flat z = true := by
  unfold Env.zero at e
  split at e
  · rename_i ti he
    exact hE.zero _ _ _ he e
  · cases e

theorem run_isAgg {t : TypeId} {ti : TI} (e : E.ty.get t = some ti) (w : World) : (isAgg t).run E.P w = .ok (isAggD ti.u) w := by
  simp only [isAgg, Sem.run_bind, run_underlying (hE.ty _ _ e).2 w, Result.andThen_ok]
  cases ti.u <;> rfl

theorem part_sound {t : TypeId} {cs : List Value} {cs' : Array Value} {off : Nat} {v : Value} (hv : VRL μ cs cs'.toList) (e : partA E t cs off = some v) :
    ∃ v', (part t cs' off).run E.P w = .ok v' w ∧ VR μ v v' := by
  unfold partA at e
  split at e
  · rename_i ti he
    split at e
    · rename_i hg
      cases e
      refine ⟨.agg (cs'.extract off (off + ti.info.size)), ?_, ?_⟩
      · simp [part, run_isAgg hE he, hg, run_size' hE he]
      · refine .agg ?_
        simp only [Array.toList_extract, List.extract_eq_take_drop]
        rw [show off + ti.info.size - off = ti.info.size by omega]
        exact (hv.drop off).take _
    · rename_i hg
      obtain ⟨v', h1, h2⟩ := hv.get e
      refine ⟨v', ?_, h2⟩
      simp only [part, Sem.run_bind, run_isAgg hE he, hg, Result.andThen_ok]
      have : cs'[off]? = some v' := by simpa using h1
      simp [this]
  · cases e
end

theorem pureRun_sound {α : Type} {P : Program} : ∀ {s : Sem α} {a : α}, pureRun P s = some a → ∀ w, s.run P w = .ok a w
  | .pure _, _, h, w => by simp [pureRun] at h; subst h; rfl
  | .program k, _, h, w => by simp only [pureRun] at h; simpa [Sem.run] using pureRun_sound h w
  | .mark _ k, _, h, w => by simp only [pureRun] at h; simpa [Sem.run] using pureRun_sound h w
  | .load .., _, h, _ => by simp [pureRun] at h
  | .store .., _, h, _ => by simp [pureRun] at h
  | .new .., _, h, _ => by simp [pureRun] at h
  | .shape .., _, h, _ => by simp [pureRun] at h
  | .freeze .., _, h, _ => by simp [pureRun] at h
  | .frozen .., _, h, _ => by simp [pureRun] at h
  | .getObj .., _, h, _ => by simp [pureRun] at h
  | .setObj .., _, h, _ => by simp [pureRun] at h
  | .choose .., _, h, _ => by simp [pureRun] at h
  | .sys .., _, h, _ => by simp [pureRun] at h
  | .halt _, _, h, _ => by simp [pureRun] at h

theorem flatL_mem : ∀ {l : List Value}, flatL l = true → ∀ v ∈ l, flat v = true
  | [], _, v, h => by simp at h
  | x :: xs, hf, v, h => by
    simp only [flatL] at hf
    split at hf
    · rename_i hx
      simp at h
      rcases h with rfl | h
      · exact hx
      · exact flatL_mem hf v h
    · simp at hf

theorem agen_sound {E : Env} {μ : Mu} {w : World} {ρ a : Operand → Value} {o : Oper} {v : Value} (hx : ∀ x ∈ o.op.operands, VR μ (ρ x) (a x))
    (ha : agen E ρ o = some v) : ∃ v', (execOp a o).run E.P w = .ok (.value v') w ∧ VR μ v v' := by
  unfold agen at ha
  split at ha
  · rename_i hf
    have heq : ∀ x ∈ o.op.operands, ρ x = a x := fun x hm => (flat_eq (hx x hm) (flatL_mem hf _ (by simp; exact ⟨x, hm, rfl⟩))).symm
    split at ha
    · cases ha
    · rename_i hs
      split at ha
      · rename_i u hp
        split at ha
        · rename_i hfl
          cases ha
          refine ⟨v, ?_, flat_refl μ v hfl⟩
          rw [← execOp_congr o (fun cs b e => hs cs b e) heq]
          exact pureRun_sound hp w
        · cases ha
      · cases ha
  · cases ha

theorem Addr.add_mk (b i n : Nat) : (⟨b, i, none⟩ : Addr).add n = ⟨b, i + n, none⟩ := by
  unfold Addr.add; split <;> simp_all

theorem run_v {P : Program} {w w' : World} {s : Sem Value} {v : Value} (h : s.run P w = .ok v w') : (do pure (Next.value (← s)) : Sem Next).run P w = .ok (.value v) w' := by
  simp [h]

theorem OR.cell {μ : Mu} {m : M} {w : World} {c : T Value} {n : Nat} {cap : Cap} {tw : Tw} (h : OR μ m w (.cells c n cap tw)) {i : Nat} {v : Value} (hi : i < n) (hv : c.get i = some v) :
    ∃ v', w.cell? ⟨m.B, m.o + i, none⟩ = some v' ∧ VR μ v v' := by
  obtain ⟨_, _, cs, el, fz, hw, _, _, hc⟩ := h
  obtain ⟨v', h1, h2⟩ := hc i v hi hv
  exact ⟨v', by simp [World.cell?, hw, h1], h2⟩

theorem getCells_sound {μ : Mu} {m : M} {w : World} {c : T Value} {n : Nat} {cap : Cap} {tw : Tw} (h : OR μ m w (.cells c n cap tw)) : ∀ (k i : Nat) (l : List Value), i + k ≤ n → getCells c i k = some l →
    ∃ l', VRL μ l l' ∧ l'.length = k ∧ ∀ j v, l'[j]? = some v → w.cell? ⟨m.B, m.o + (i + j), none⟩ = some v
  | 0, i, l, _, e => by
    simp [getCells] at e
    subst e
    exact ⟨[], .nil, rfl, fun j v hv => by simp at hv⟩
  | k + 1, i, l, hle, e => by
    simp only [getCells] at e
    split at e
    · rename_i v hv
      split at e
      · rename_i vs hvs
        cases e
        obtain ⟨v', h1, h2⟩ := h.cell (by omega) hv
        obtain ⟨l', h3, h4, h5⟩ := getCells_sound h k (i + 1) vs (by omega) hvs
        refine ⟨v' :: l', .cons h2 h3, by simp [h4], fun j u hu => ?_⟩
        cases j with
        | zero => simp at hu; subst hu; simpa using h1
        | succ j => simp at hu; have := h5 j u hu; rwa [show i + (j + 1) = i + 1 + j by omega]
      · cases e
    · cases e

/-- cells read: they are there, and related -/
theorem read_sound {μ : Mu} {h : H} {w : World} (hr : HR μ h w) {b i n : Nat} {m : M} {l : List Value} (hm : μ b = some m) (e : h.read b i n = some l) :
    ∃ l', VRL μ l l' ∧ l'.length = n ∧ ∀ j v, l'[j]? = some v → w.cell? ⟨m.B, m.o + i + j, none⟩ = some v := by
  unfold H.read at e
  have ho := hr.ok b m hm
  split at e
  · rename_i c sz cap tw hc
    rw [hc] at ho
    split at e
    · rename_i hle
      obtain ⟨l', h1, h2, h3⟩ := getCells_sound ho n i l (by simpa using hle) e
      exact ⟨l', h1, h2, fun j v hv => by have := h3 j v hv; rwa [show m.o + i + j = m.o + (i + j) by omega]⟩
    · cases e
  · cases e

theorem read_loadCells {P : Program} {w : World} {B o n : Nat} {l : List Value} (hl : l.length = n) (h : ∀ j v, l[j]? = some v → w.cell? ⟨B, o + j, none⟩ = some v) :
    (loadCells ⟨B, o, none⟩ n).run P w = .ok l.toArray w := by
  subst hl
  exact run_loadCells_list w _ l fun j v hv => by rw [Addr.add_mk]; exact h j v hv

theorem aload_sound {E : Env} (hE : EnvOk E) {μ : Mu} {h : H} {w : World} (hr : HR μ h w) {t : TypeId} {x x' v : Value} (hx : VR μ x x') (e : aload E h t x = some v) :
    ∃ A v', x' = .pointer (some A) ∧ (loadVar t A).run E.P w = .ok v' w ∧ VR μ v v' := by
  unfold aload at e
  split at e
  · rename_i b i
    cases hx with
    | ptr hm =>
      split at e
      · rename_i ti he
        split at e
        · rename_i hg
          split at e
          · rename_i l hl
            cases e
            obtain ⟨l', h1, h2, h3⟩ := read_sound hr hm hl
            refine ⟨_, .agg l'.toArray, rfl, ?_, .agg (by simpa using h1)⟩
            simp only [loadVar, Sem.run_bind, run_isAgg hE he, hg, Result.andThen_ok, if_true, run_size' hE he, read_loadCells h2 h3, Sem.run_pure]
          · cases e
        · rename_i hg
          split at e
          · rename_i u rest hl
            cases e
            obtain ⟨l', h1, h2, h3⟩ := read_sound hr hm hl
            cases h1 with
            | cons hv ht =>
              rename_i v1 l1
              have hc := h3 0 v1 (by simp)
              refine ⟨_, v1, rfl, ?_, hv⟩
              simp only [Nat.add_zero] at hc
              simp [loadVar, run_isAgg hE he, hg, hc]
          · cases e
      · cases e
  · cases e

theorem asIdx_sound {μ : Mu} {v v' : Value} {n k : Nat} (hv : VR μ v v') (e : asIdx v n = some k) : ∃ kd, v' = .int kd (k : Int) ∧ k < n := by
  unfold asIdx at e
  split at e
  · rename_i kd i
    cases hv
    split at e
    · rename_i hb
      cases e
      exact ⟨kd, rfl, by simpa [Nat.blt_eq] using hb⟩
    · cases e
  · cases e

theorem asBound_none {d n k : Nat} (e : asBound none d n = some k) : k = d := by simpa [asBound] using e.symm

theorem asBound_some {μ : Mu} {v v' : Value} {d n k : Nat} (hv : VR μ v v') (e : asBound (some v) d n = some k) : ∃ kd, v' = .int kd (k : Int) ∧ k ≤ n := by
  unfold asBound at e
  split at e
  · rename_i h; cases h
  · rename_i kd i h
    cases h
    cases hv
    split at e
    · rename_i hb
      cases e
      exact ⟨kd, rfl, by simpa using hb⟩
    · cases e
  · cases e

theorem run_bound {P : Program} {w : World} {kd : IntKind} {k n : Nat} (h : k ≤ n) (code : BoundsCode) : (Instr.sliceBound (.int kd (k : Int)) n code).run P w = .ok k w := by
  have : (0 : Int) ≤ (k : Int) ∧ (k : Int) ≤ (n : Int) := by omega
  simp [Instr.sliceBound, asIntOf, this]

/-- the bounds of a slice expression without a max, as the evaluator reckons them -/
theorem run_bounds {P : Program} {w : World} {μ : Mu} {ρ a : Operand → Value} {lo hi : Option Operand} {len cap hv l : Nat} (isS : Bool) (hlc : len ≤ cap)
    (hlo : ∀ x ∈ lo, VR μ (ρ x) (a x)) (hhi : ∀ x ∈ hi, VR μ (ρ x) (a x)) (e1 : asBound (hi.map ρ) len len = some hv) (e2 : asBound (lo.map ρ) 0 hv = some l) :
    (Instr.sliceBounds isS len cap (lo.map a) (hi.map a) none).run P w = .ok (l, hv, cap) w ∧ l ≤ hv ∧ hv ≤ len := by
  have h1 : hv ≤ len ∧ (hi = none → hv = len) ∧ ∀ x, hi = some x → ∃ kd, a x = .int kd (hv : Int) := by
    cases hi with
    | none => have := asBound_none e1; subst this; exact ⟨Nat.le_refl _, fun _ => rfl, (fun x h => by cases h)⟩
    | some x => obtain ⟨kd, e, hle⟩ := asBound_some (hhi x rfl) e1; exact ⟨hle, (fun h => by cases h), (fun y hy => by cases hy; exact ⟨kd, e⟩)⟩
  have h2 : l ≤ hv ∧ (lo = none → l = 0) ∧ ∀ x, lo = some x → ∃ kd, a x = .int kd (l : Int) := by
    cases lo with
    | none => have := asBound_none e2; subst this; exact ⟨Nat.zero_le _, fun _ => rfl, (fun x h => by cases h)⟩
    | some x => obtain ⟨kd, e, hle⟩ := asBound_some (hlo x rfl) e2; exact ⟨hle, (fun h => by cases h), (fun y hy => by cases hy; exact ⟨kd, e⟩)⟩
  refine ⟨?_, h2.1, h1.1⟩
  have hb : ∀ (code : BoundsCode) (x : Operand), hi = some x → (Instr.sliceBound (a x) cap code).run P w = .ok hv w := by
    intro code x hx
    obtain ⟨kd, e⟩ := h1.2.2 x hx
    rw [e]; exact run_bound (by omega) code
  have lb : ∀ (code : BoundsCode) (x : Operand), lo = some x → (Instr.sliceBound (a x) hv code).run P w = .ok l w := by
    intro code x hx
    obtain ⟨kd, e⟩ := h2.2.2 x hx
    rw [e]; exact run_bound (by omega) code
  cases hi with
  | none =>
    have eh := h1.2.1 rfl
    subst eh
    cases lo with
    | none => have el := h2.2.1 rfl; subst el; simp [Instr.sliceBounds]
    | some y => simp [Instr.sliceBounds, lb _ y rfl]
  | some x =>
    cases lo with
    | none => have el := h2.2.1 rfl; subst el; simp [Instr.sliceBounds, hb _ x rfl]
    | some y => simp [Instr.sliceBounds, hb _ x rfl, lb _ y rfl]

theorem und_ty {E : Env} {t : TypeId} {d : TypeDesc} (e : E.und t = some d) : ∃ ti, E.ty.get t = some ti ∧ ti.u = d := by
  unfold Env.und at e
  split at e
  · rename_i ti he; cases e; exact ⟨ti, he, rfl⟩
  · cases e

theorem slice_room {μ : Mu} {b i len w cap hv l : Nat} {m : M} (hm : μ b = some m) (hroom : cap * (w + 1) + i = m.room) (hlc : len ≤ cap) (h1 : l ≤ hv) (h2 : hv ≤ len) :
    VR μ (.slice (some ⟨b, i + l * (w + 1), none⟩) (hv - l) (w + 1)) (.slice (some (if cap = l then ⟨m.B, m.o + i, none⟩ else ⟨m.B, m.o + i + l * (w + 1), none⟩)) (hv - l) (cap - l)) := by
  by_cases hc : cap = l
  · subst hc
    rw [show hv - cap = 0 by omega, show cap - cap = 0 by omega, if_pos rfl]
    exact .slice0 (.inr ⟨m, hm, by omega⟩)
  · rw [if_neg hc, show m.o + i + l * (w + 1) = m.o + (i + l * (w + 1)) by omega]
    refine .slice hm ?_ (by omega)
    rw [← hroom, Nat.sub_mul]
    have : l * (w + 1) ≤ cap * (w + 1) := Nat.mul_le_mul_right _ (by omega)
    omega

theorem aslice_sound {E : Env} (hE : EnvOk E) {μ : Mu} {h : H} {w : World} (hr : HR μ h w) {ρ a : Operand → Value} {t : TypeId} {x v : Value} {x' : Value} {lo hi : Option Operand}
    (hx : VR μ x x') (hlo : ∀ y ∈ lo, VR μ (ρ y) (a y)) (hhi : ∀ y ∈ hi, VR μ (ρ y) (a y)) (e : aslice E ρ h t x lo hi = some v) :
    ∃ v', (Instr.sliceAt t x' (lo.map a) (hi.map a) none).run E.P w = .ok v' w ∧ VR μ v v' := by
  unfold aslice at e
  split at e
  · -- a slice
    rename_i b i len z el hu
    have hund := run_und hE hu w
    split at e
    · rename_i w' hv hsz e1
      split at e
      · rename_i l e2
        cases hx with
        | slice hm hroom hlc =>
          rename_i w1 cap m
          obtain ⟨hb, h1, h2⟩ := run_bounds (P := E.P) (w := w) (μ := μ) (a := a) true hlc hlo hhi e1 e2
          dsimp only at e
          split at e
          · rename_i hw
            have hw : w1 + 1 = w' := by simpa using hw
            subst hw
            cases e
            refine ⟨_, ?_, slice_room hm hroom hlc h1 h2⟩
            simp only [Instr.sliceAt, Sem.run_bind, hund, Result.andThen_ok, Instr.slice, hb, run_size hE hsz, Sem.run_pure, Option.map_some, Addr.add_mk]
            by_cases hc : cap = l <;> simp [hc]
          · cases e
        | slice0 h0 =>
          rename_i A
          obtain ⟨hb, h1, h2⟩ := run_bounds (P := E.P) (w := w) (μ := μ) (a := a) true (Nat.le_refl 0) hlo hhi e1 e2
          have e3 : hv = 0 := by omega
          have e4 : l = 0 := by omega
          subst e3; subst e4
          have hrun : (Instr.sliceAt t (.slice (some A) 0 0) (lo.map a) (hi.map a) none).run E.P w = .ok (.slice (some A) 0 0) w := by
            simp only [Instr.sliceAt, Sem.run_bind, hund, Result.andThen_ok, Instr.slice, hb, run_size hE hsz, Sem.run_pure, if_true, Nat.sub_zero]
          cases z with
          | zero =>
            dsimp only at e
            cases e
            exact ⟨_, hrun, .slice0 (.inl rfl)⟩
          | succ w1 =>
            dsimp only at e
            split at e
            · cases e
              exact ⟨_, hrun, by simpa using VR.slice0 (μ := μ) (b := b) (i := i) (z := w1 + 1) (A := A) h0⟩
            · cases e
      · cases e
    · cases e
  · -- nil
    rename_i n1 n2 el hu
    have hund := run_und hE hu w
    cases hx
    split at e
    · rename_i w' hv hsz e1
      split at e
      · rename_i l e2
        cases e
        obtain ⟨hb, h1, h2⟩ := run_bounds (P := E.P) (w := w) (μ := μ) (a := a) true (Nat.le_refl 0) hlo hhi e1 e2
        have e3 : hv = 0 := by omega
        have e4 : l = 0 := by omega
        subst e3; subst e4
        refine ⟨.slice none 0 0, ?_, .nilSlice⟩
        simp only [Instr.sliceAt, Sem.run_bind, hund, Result.andThen_ok, Instr.slice, hb, run_size hE hsz, Sem.run_pure, if_true, Nat.sub_zero]
      · cases e
    · cases e
  · -- an array behind a pointer
    rename_i b i len el hu
    have hund := run_und hE hu w
    cases hx with
    | ptr hm =>
      rename_i m
      split at e
      · rename_i w1 c n tw hsz hobj
        have ho := hr.ok b m hm
        rw [hobj] at ho
        have hroom := ho.2.1.1 rfl
        split at e
        · rename_i hn
          have hn : i + len * (w1 + 1) = n := by simpa using hn
          split at e
          · rename_i hv e1
            split at e
            · rename_i l e2
              cases e
              obtain ⟨hb, h1, h2⟩ := run_bounds (P := E.P) (w := w) (μ := μ) (a := a) false (Nat.le_refl len) hlo hhi e1 e2
              refine ⟨_, ?_, slice_room (cap := len) hm (by omega) (Nat.le_refl _) h1 h2⟩
              simp only [Instr.sliceAt, Sem.run_bind, hund, Result.andThen_ok, Instr.sureAddr, hb, run_size hE hsz, Sem.run_pure, Addr.add_mk]
            · cases e
          · cases e
        · cases e
      · cases e
  · -- a string
    rename_i s hu
    have hund := run_und hE hu w
    cases hx
    split at e
    · rename_i hv e1
      split at e
      · rename_i l e2
        cases e
        obtain ⟨hb, h1, h2⟩ := run_bounds (P := E.P) (w := w) (μ := μ) (a := a) false (Nat.le_refl s.size) hlo hhi e1 e2
        refine ⟨.string (s.extract l hv), ?_, by rw [← extract_list]; exact .string _⟩
        simp only [Instr.sliceAt, Sem.run_bind, hund, Result.andThen_ok, Instr.slice, Option.isSome_none, Bool.false_eq_true, if_false, hb, Sem.run_pure]
      · cases e
    · cases e
  · cases e

end Go.AX

namespace Go.AX

theorem foldl_set (l : List Value) : ∀ (k off : Nat) (cells : Array Value), off + k + l.length ≤ cells.size →
    ((l.zipIdx k).foldl (fun (cs : Array Value) (p : Value × Nat) => cs.setIfInBounds (off + p.2) p.1) cells).toList = placeList l (off + k) cells.toList := by
  induction l with
  | nil => intro k off cells h; simp [placeList]
  | cons v vs ih =>
    intro k off cells h
    simp only [List.length_cons] at h
    simp only [List.zipIdx_cons, List.foldl_cons]
    rw [ih (k + 1) off _ (by simp; omega)]
    unfold placeList
    apply List.ext_getElem?
    intro j
    simp only [Array.toList_setIfInBounds]
    rw [List.getElem?_append, List.getElem?_append, List.getElem?_append, List.getElem?_append]
    simp only [List.length_take, List.length_set, List.length_cons, Array.length_toList]
    rw [show min (off + (k + 1)) cells.size = off + k + 1 by omega, show min (off + k) cells.size = off + k by omega]
    by_cases h1 : j < off + k
    · rw [if_pos (by omega), if_pos h1, List.getElem?_take, List.getElem?_take, if_pos (by omega), if_pos h1, List.getElem?_set, if_neg (by omega)]
    · rw [if_neg h1]
      by_cases h2 : j = off + k
      · subst h2
        rw [if_pos (by omega), List.getElem?_take, if_pos (by omega), List.getElem?_set, if_pos rfl, if_pos (by simp; omega), if_pos (by omega)]
        simp
      · rw [if_neg (by omega)]
        by_cases h3 : j < off + k + 1 + vs.length
        · rw [if_pos (by omega), if_pos (by omega), show j - (off + k) = (j - (off + k + 1)) + 1 by omega, List.getElem?_cons_succ]
        · rw [if_neg (by omega), if_neg (by omega), List.getElem?_drop, List.getElem?_drop, List.getElem?_set, if_neg (by omega)]
          congr 1
          omega

theorem fill_sound {μ : Mu} {place : Nat → Option (Nat × Nat)} : ∀ {parts parts' : List (Nat × Value)} {cells : List Value} {cells' : Array Value} {l : List Value},
    VRL μ cells cells'.toList → parts.map (·.1) = parts'.map (·.1) → VRL μ (parts.map (·.2)) (parts'.map (·.2)) → fillA place cells parts = some l →
    ∃ l', Instr.fill place cells' parts' = some l' ∧ VRL μ l l'.toList
  | [], [], cells, cells', l, hc, _, _, e => by
    simp [fillA] at e; subst e; exact ⟨cells', rfl, hc⟩
  | [], _ :: _, _, _, _, _, h, _, _ => by simp at h
  | _ :: _, [], _, _, _, _, h, _, _ => by simp at h
  | (i, v) :: rest, (i', v') :: rest', cells, cells', l, hc, hi, hv, e => by
    simp only [List.map_cons, List.cons.injEq] at hi
    obtain ⟨rfl, hi⟩ := hi
    cases hv with
    | cons hv ht =>
      simp only [fillA] at e
      split at e
      · cases e
      · rename_i off size hp
        split at e
        · rename_i h1 h2
          have h1 : v.cells.size = size := by simpa using h1
          have h2 : off + size ≤ cells.length := by simpa using h2
          have hcl := hv.cells
          have hs : v'.cells.size = size := by have := hcl.length; simp at this; omega
          have hcs : cells.length = cells'.size := by have := hc.length; simpa using this
          have hfold := foldl_set v'.cells.toList 0 off cells' (by simp; omega)
          obtain ⟨l', h3, h4⟩ := fill_sound (place := place) (cells' := v'.cells.zipIdx.foldl (fun cs (c, j) => cs.setIfInBounds (off + j) c) cells') (l := l) (by
            have : (v'.cells.zipIdx.foldl (fun cs (c, j) => cs.setIfInBounds (off + j) c) cells').toList = placeList v'.cells.toList off cells'.toList := by
              rw [← Array.foldl_toList, Array.toList_zipIdx]
              simpa using hfold
            rw [this]
            unfold placeList
            rw [← hcl.length]
            exact (hc.take off).append (hcl.append (hc.drop _))) hi ht e
          refine ⟨l', ?_, h4⟩
          rw [Instr.fill, hp]
          simp only [hs, ne_eq, not_true_eq_false, decide_false, Bool.false_or, gt_iff_lt]
          rw [if_neg (by simp; omega)]
          exact h3
        · cases e

theorem run_places {E : Env} (hE : EnvOk E) {w : World} : ∀ {fs : List Field} {ps : List (Nat × Nat)}, places E fs = some ps →
    (fs.mapM (fun f => do pure (f.offset, ← sizeOf f.type)) : Sem (List (Nat × Nat))).run E.P w = .ok ps w
  | [], ps, e => by simp [places] at e; subst e; simp
  | f :: fs, ps, e => by
    simp only [places] at e
    split at e
    · rename_i n l h1 h2
      cases e
      have ih := run_places hE (w := w) h2
      simp only [List.mapM_cons, Sem.run_bind, run_size hE h1, Result.andThen_ok, Sem.run_pure, ih]
    · cases e

theorem run_placesA {E : Env} (hE : EnvOk E) {w : World} {fs : Array Field} {ps : List (Nat × Nat)} (e : places E fs.toList = some ps) :
    (fs.mapM (fun f => do pure (f.offset, ← sizeOf f.type)) : Sem (Array (Nat × Nat))).run E.P w = .ok ps.toArray w := by
  have ih := run_places hE (w := w) e
  rw [Array.mapM_eq_mapM_toList]
  simp only [Sem.run_map, ih, Result.andThen_ok]

theorem parts_rel {μ : Mu} {ρ a : Operand → Value} {parts : Array (Nat × Operand)} (hx : ∀ x ∈ parts.toList.map (·.2), VR μ (ρ x) (a x)) :
    (parts.toList.map fun (i, x) => (i, ρ x)).map (·.1) = ((parts.map fun (i, x) => (i, a x)).toList).map (·.1) ∧
    VRL μ ((parts.toList.map fun (i, x) => (i, ρ x)).map (·.2)) (((parts.map fun (i, x) => (i, a x)).toList).map (·.2)) := by
  constructor
  · simp
  · simp only [Array.toList_map, List.map_map]
    exact VRL.map _ fun x hm => hx x.2 (by simp only [List.mem_map]; exact ⟨x, hm, rfl⟩)

theorem abuild_sound {E : Env} (hE : EnvOk E) {μ : Mu} {w : World} {ρ a : Operand → Value} {t : TypeId} {parts : Array (Nat × Operand)} {v : Value}
    (hx : ∀ x ∈ parts.toList.map (·.2), VR μ (ρ x) (a x)) (e : abuild E ρ t parts = some v) :
    ∃ v', (Instr.build t (parts.map fun (i, x) => (i, a x))).run E.P w = .ok v' w ∧ VR μ v v' := by
  unfold abuild at e
  split at e
  · rename_i ti hti
    split at e
    · rename_i z hz
      have hzr := flat_refl μ z (hE.zero _ _ _ hti hz)
      have hund : (underlying t).run E.P w = .ok ti.u w := run_underlying (hE.ty _ _ hti).2 w
      obtain ⟨p1, p2⟩ := parts_rel hx
      split at e
      · rename_i fs hu
        rw [hu] at hund
        split at e
        · rename_i ps hps
          split at e
          · rename_i l hl
            cases e
            obtain ⟨l', h1, h2⟩ := fill_sound (cells' := z.cells) hzr.cells p1 p2 hl
            refine ⟨.agg l', ?_, .agg h2⟩
            have h1' : Instr.fill (ps.toArray[·]?) z.cells (parts.map fun (i, x) => (i, a x)).toList = some l' := by
              rw [← h1]; congr 1; funext i; simp
            simp only [Instr.build, Sem.run_bind, run_zero' hE hti hz, Result.andThen_ok, hund, run_placesA hE hps, h1', Sem.run_pure]
          · cases e
        · cases e
      · rename_i el hu
        rw [hu] at hund
        split at e
        · rename_i sz hsz
          split at e
          · rename_i l hl
            cases e
            obtain ⟨l', h1, h2⟩ := fill_sound (cells' := z.cells) hzr.cells p1 p2 hl
            refine ⟨.agg l', ?_, .agg h2⟩
            simp only [Instr.build, Sem.run_bind, run_zero' hE hti hz, Result.andThen_ok, hund, run_size hE hsz, h1, Sem.run_pure]
          · cases e
        · cases e
      · cases e
    · cases e
  · cases e

end Go.AX

namespace Go.AX

theorem akey_spec {kd : TypeDesc} {k : Value} (h : akey kd k = true) : (∃ ik, kd = .int ik ∧ ∃ x n, k = .int x n) ∨ (kd = .string ∧ ∃ s, k = .string s) := by
  unfold akey at h
  split at h
  · exact .inl ⟨_, rfl, _, _, rfl⟩
  · exact .inr ⟨rfl, _, rfl⟩
  · cases h

theorem keyEq_sameNow {kd : TypeDesc} {k a : Value} {b : Bool} (hk : (∃ ik, kd = .int ik ∧ ∃ x n, k = .int x n) ∨ (kd = .string ∧ ∃ s, k = .string s)) (e : keyEq k a = some b) : Instr.sameNow kd k a = some b := by
  rcases hk with ⟨ik, rfl, x, n, rfl⟩ | ⟨rfl, s, rfl⟩
  · cases a <;> simp only [keyEq] at e <;> try (cases e)
    rename_i x' n'
    split at e
    · rename_i hx
      have : x = x' := by simpa using hx
      cases e
      simp [Instr.sameNow, this]
    · cases e
  · cases a <;> simp only [keyEq] at e <;> try (cases e)
    simp [Instr.sameNow]

theorem mapGet_sound {μ : Mu} {kd : TypeDesc} {k : Value} (hk : (∃ ik, kd = .int ik ∧ ∃ x n, k = .int x n) ∨ (kd = .string ∧ ∃ s, k = .string s)) :
    ∀ {es : List (Value × Value)} {ents : List MapEntry} (j : Nat) {r : Option Value}, VRL μ (es.map (·.2)) (ents.map (·.val)) → es.map (·.1) = ents.map (·.key) → mapGet k es = some r →
      (r = none ∧ Instr.findNow kd k ents j = some none) ∨ (∃ v i ent, r = some v ∧ Instr.findNow kd k ents j = some (some (j + i, ent.val)) ∧ ents[i]? = some ent ∧ VR μ v ent.val ∧ keyEq k ent.key = some true)
  | [], [], j, r, _, _, e => by simp [mapGet] at e; exact .inl ⟨e.symm, rfl⟩
  | [], _ :: _, _, _, _, h, _ => by simp at h
  | _ :: _, [], _, _, _, h, _ => by simp at h
  | (a, v) :: es, ent :: ents, j, r, hv, hkeys, e => by
    simp only [List.map_cons, List.cons.injEq] at hkeys
    obtain ⟨rfl, hkeys⟩ := hkeys
    cases hv with
    | cons hv ht =>
      simp only [mapGet] at e
      split at e
      · rename_i hke
        cases e
        refine .inr ⟨v, 0, ent, rfl, ?_, rfl, hv, hke⟩
        simp [Instr.findNow, keyEq_sameNow hk hke]
      · rename_i hke
        have hs := keyEq_sameNow hk hke
        rcases mapGet_sound hk (j + 1) ht hkeys e with ⟨h1, h2⟩ | ⟨v', i, ent', h1, h2, h3, h4, h5⟩
        · exact .inl ⟨h1, by simp [Instr.findNow, hs, h2]⟩
        · refine .inr ⟨v', i + 1, ent', h1, ?_, by simpa using h3, h4, h5⟩
          simp only [Instr.findNow, hs, h2]
          simp; omega
      · cases e

theorem run_checkKey {P : Program} {w : World} {kt : TypeId} {kd : TypeDesc} {k : Value} (hu : P.underlying kt = some kd)
    (hk : (∃ ik, kd = .int ik ∧ ∃ x n, k = .int x n) ∨ (kd = .string ∧ ∃ s, k = .string s)) (b : Bool) (n : Nat) : (Instr.checkKey b (n + 1) kt k).run P w = .ok () w := by
  rcases hk with ⟨ik, rfl, x, m, rfl⟩ | ⟨rfl, s, rfl⟩ <;> simp [Instr.checkKey, run_underlying hu]

theorem run_getObj {P : Program} {w : World} {r : Nat} {o : Obj} (h : w.heap[r]? = some o) (hn : ∀ c e f, o ≠ .cells c e f) : (getObj r).run P w = .ok o w := by
  simp only [getObj, Sem.run, h]

theorem kd_of {kd : TypeDesc} {k k' : Value} {μ : Mu} (hk : VR μ k k') (h : (∃ ik, kd = .int ik ∧ ∃ x n, k = .int x n) ∨ (kd = .string ∧ ∃ s, k = .string s)) : k' = k := by
  rcases h with ⟨_, _, x, n, rfl⟩ | ⟨_, s, rfl⟩ <;> cases hk <;> rfl

theorem okv_rel {μ : Mu} {ok b : Bool} {v v' : Value} (h : VR μ v v') : VR μ (okv ok v b) (if ok then .tuple #[v', .bool b] else v') := by
  cases ok
  · exact h
  · exact .tuple (.cons h (.cons (.bool b) .nil))

theorem run_findKey {P : Program} {w : World} {kt : TypeId} {kd : TypeDesc} {k : Value} {ents : List MapEntry} {r : Option (Nat × Value)} (hu : P.underlying kt = some kd) (h : Instr.findNow kd k ents 0 = some r) :
    (Instr.findKey kt k ents).run P w = .ok r w := by
  simp [Instr.findKey, run_underlying hu, h]

theorem und_P {E : Env} (hE : EnvOk E) {t : TypeId} {d : TypeDesc} (e : E.und t = some d) : E.P.underlying t = some d := by
  obtain ⟨ti, h1, h2⟩ := und_ty e
  rw [← h2]; exact (hE.ty _ _ h1).2

theorem alookup_sound {E : Env} (hE : EnvOk E) {μ : Mu} {h : H} {w : World} (hr : HR μ h w) {t : TypeId} {m k m' k' v : Value} {ok : Bool} (hm : VR μ m m') (hk : VR μ k k') (e : alookup E h t m k ok = some v) :
    ∃ v', (Instr.lookup t m' k' ok).run E.P w = .ok v' w ∧ VR μ v v' := by
  unfold alookup at e
  split at e
  · rename_i kt el hu
    split at e
    · rename_i z kd hz hkt
      have hzr := flat_refl μ z (zero_flat hE hz)
      split at e
      · rename_i hkk
        have hkk := akey_spec hkk
        have := kd_of hk hkk
        subst this
        have hck := fun b => run_checkKey (w := w) (und_P hE hkt) hkk b 9999
        split at e
        · rename_i r
          cases hm with
          | map hm =>
            rename_i mm
            have ho := hr.ok r mm hm
            split at e
            · rename_i es hobj
              rw [hobj] at ho
              obtain ⟨ents, clock, h1, h2, h3⟩ := ho
              have hg := run_getObj (P := E.P) h1 (by intro _ _ _ h; cases h)
              split at e
              · rename_i v1 hmg
                cases e
                rcases mapGet_sound hkk 0 h2 h3 hmg with ⟨h4, _⟩ | ⟨v2, i, ent, h4, h5, h6, h7, _⟩
                · cases h4
                · cases h4
                  refine ⟨_, ?_, okv_rel (b := true) h7⟩
                  simp only [Instr.lookup, Sem.run_bind, run_und hE hu, Result.andThen_ok, hg, hck, run_findKey (und_P hE hkt) h5, Sem.run_pure]
              · rename_i hmg
                cases e
                rcases mapGet_sound hkk 0 h2 h3 hmg with ⟨_, h5⟩ | ⟨v2, i, ent, h4, _⟩
                · refine ⟨_, ?_, okv_rel (b := false) hzr⟩
                  simp only [Instr.lookup, Sem.run_bind, run_und hE hu, Result.andThen_ok, hg, hck, run_findKey (und_P hE hkt) h5, Sem.run_pure, run_zero hE hz]
                · cases h4
              · cases e
            · cases e
        · cases hm
          cases e
          refine ⟨_, ?_, okv_rel (b := false) hzr⟩
          have hf : Instr.findNow kd k' ([] : List MapEntry) 0 = some none := rfl
          simp only [Instr.lookup, Sem.run_bind, run_und hE hu, Result.andThen_ok, hck, run_findKey (und_P hE hkt) hf, Sem.run_pure, run_zero hE hz]
        · cases e
      · cases e
    · cases e
  · cases e

theorem one_arg {μ : Mu} {x : Value} {a : Array Value} (h : VRL μ [x] a.toList) : ∃ x', a = #[x'] ∧ VR μ x x' := by
  generalize hl : a.toList = l at h
  cases h with
  | cons h1 h2 => cases h2; exact ⟨_, Array.ext' hl, h1⟩

theorem two_args {μ : Mu} {x y : Value} {a : Array Value} (h : VRL μ [x, y] a.toList) : ∃ x' y', a = #[x', y'] ∧ VR μ x x' ∧ VR μ y y' := by
  generalize hl : a.toList = l at h
  cases h with
  | cons h1 h2 => cases h2 with
    | cons h2 h3 => cases h3; exact ⟨_, _, Array.ext' hl, h1, h2⟩

theorem abuiltin_sound {E : Env} (hE : EnvOk E) {μ : Mu} {h : H} {w : World} (hr : HR μ h w) {b : Builtin} {t : TypeId} {rest : List TypeId} {argTypes : Array TypeId} (hat : argTypes.toList = t :: rest)
    {args : List Value} {args' : Array Value} {v : Value} (ty : TypeId) (consts : Array Bool) (hargs : VRL μ args args'.toList) (e : abuiltin E h b t args = some v) :
    ∃ v', (builtin b argTypes ty consts args').run E.P w = .ok (.value v') w ∧ VR μ v v' := by
  have h0 : argTypes[0]? = some t := by
    have : argTypes.toList[0]? = some t := by rw [hat]; rfl
    simpa using this
  unfold abuiltin at e
  split at e
  · rename_i el hu
    obtain ⟨x', rfl, hx⟩ := one_arg hargs
    cases e
    refine ⟨_, run_v (v := .int .i64 _) ?_, .int _ _⟩
    cases hx <;> simp [Builtin.len_, h0, run_und hE hu, goInt]
  · rename_i s hu
    obtain ⟨x', rfl, hx⟩ := one_arg hargs
    cases e
    refine ⟨_, run_v (v := .int .i64 _) ?_, .int _ _⟩
    cases hx
    simp [Builtin.len_, h0, run_und hE hu, goInt]
  · rename_i r kt el hu
    obtain ⟨x', rfl, hx⟩ := one_arg hargs
    cases hx with
    | map hm =>
      have ho := hr.ok _ _ hm
      split at e
      · rename_i es hobj
        rw [hobj] at ho
        obtain ⟨ents, clock, h1, h2, h3⟩ := ho
        cases e
        have hl : es.length = ents.size := by have := h2.length; simpa using this
        refine ⟨_, run_v (v := .int .i64 _) ?_, .int _ _⟩
        simp [Builtin.len_, h0, run_und hE hu, goInt, run_getObj (P := E.P) h1 (by intro _ _ _ h; cases h), hl]
      · cases e
  · rename_i kt el hu
    obtain ⟨x', rfl, hx⟩ := one_arg hargs
    cases e
    cases hx
    refine ⟨_, run_v (v := .int .i64 _) ?_, .int _ _⟩
    simp [Builtin.len_, h0, run_und hE hu, goInt]
  · rename_i x n el hu
    obtain ⟨x', rfl, hx⟩ := one_arg hargs
    cases e
    refine ⟨_, run_v (v := .int .i64 _) ?_, .int _ _⟩
    simp [Builtin.len_, h0, run_und hE hu, goInt]
  · rename_i n1 n2 el hu
    obtain ⟨x', rfl, hx⟩ := one_arg hargs
    cases e
    cases hx
    refine ⟨_, run_v (v := .int .i64 _) ?_, .int _ _⟩
    simp [Builtin.cap_, h0, run_und hE hu, goInt]
  · rename_i b i len w1 el hu
    obtain ⟨x', rfl, hx⟩ := one_arg hargs
    split at e
    · rename_i c n tw hobj
      cases e
      cases hx with
      | slice hm hroom hle =>
        rename_i cap m
        have ho := hr.ok _ _ hm
        rw [hobj] at ho
        have hn := ho.2.1.1 rfl
        have : (n - i) / (w1 + 1) = cap := by
          rw [hn, ← hroom, Nat.add_sub_cancel, Nat.mul_div_cancel _ (by omega)]
        refine ⟨_, run_v (v := .int .i64 _) ?_, .int _ _⟩
        rw [this]
        simp [Builtin.cap_, h0, run_und hE hu, goInt]
      | slice0 h0' =>
        rcases h0' with h0' | ⟨m, hm, hi⟩
        · cases h0'
        · have ho := hr.ok _ _ hm
          rw [hobj] at ho
          have hn := ho.2.1.1 rfl
          refine ⟨_, run_v (v := .int .i64 _) ?_, .int _ _⟩
          have : (n - i) / (w1 + 1) = 0 := by rw [hn, hi]; simp
          rw [this]
          simp [Builtin.cap_, h0, run_und hE hu, goInt]
    · cases e
  · rename_i A len el hu
    obtain ⟨x', rfl, hx⟩ := one_arg hargs
    cases e
    cases hx with
    | slice0 h0' =>
      refine ⟨_, run_v (v := .int .i64 _) ?_, .int _ _⟩
      simp [Builtin.cap_, h0, run_und hE hu, goInt]
  · cases e

theorem aeq_sound {E : Env} (hE : EnvOk E) {μ : Mu} {w : World} {t : TypeId} {x y x' y' : Value} {r : Bool} (hx : VR μ x x') (hy : VR μ y y') (e : aeq (E.und t) x y = some r) :
    (Op.equal t x' y').run E.P w = .ok r w ∧ (∀ k a, x' ≠ .int k a) ∧ (∀ k a, x' ≠ .float k a) ∧ (∀ k a b, x' ≠ .complex k a b) ∧ (∀ s, x' ≠ .string s) ∧ ¬ (∃ a b, x' = .agg a ∧ y' = .agg b) ∧ ¬ (x' = .nilIface ∧ y' = .nilIface) := by
  have h1 : Op.equal t x' y' = Op.equalIn (9999 + 1) t x' y' := rfl
  rw [h1, Op.equalIn]
  unfold aeq at e
  split at e <;> first
    | cases e; done
    | (rename_i hu
       cases e
       cases hx <;> cases hy <;> simp [run_und hE hu])

theorem binOp_eq {op : BinOp} {P : Program} {w : World} {t : TypeId} {xo yo : Operand} {x y : Value} {r : Bool} (he : (Op.equal t x y).run P w = .ok r w ∧ (∀ k a, x ≠ .int k a) ∧ (∀ k a, x ≠ .float k a) ∧ (∀ k a b, x ≠ .complex k a b) ∧ (∀ s, x ≠ .string s) ∧ ¬ (∃ a b, x = .agg a ∧ y = .agg b) ∧ ¬ (x = .nilIface ∧ y = .nilIface))
    (hop : op = .eql ∨ op = .neq) : (do eqGuard op t xo yo x y; binOp op t x y : Sem Value).run P w = .ok (.bool (if op = .eql then r else !r)) w := by
  obtain ⟨h1, h2, h3, h4, h5, h6, h7⟩ := he
  have hg : (eqGuard op t xo yo x y).run P w = .ok () w := by
    rcases hop with rfl | rfl <;> cases x <;> cases y <;> simp_all [eqGuard]
  simp only [Sem.run_bind, hg, Result.andThen_ok]
  rcases hop with rfl | rfl <;> cases x <;> simp_all [binOp]

theorem abin_sound {op : BinOp} {P : Program} {w : World} {μ : Mu} {t : TypeId} {xo yo : Operand} {x y x' y' v : Value} (hx : VR μ x x') (hy : VR μ y y') (e : abin op x y = some v) :
    (do eqGuard op t xo yo x' y'; binOp op t x' y' : Sem Value).run P w = .ok v w ∧ VR μ v v := by
  unfold abin at e
  split at e <;> first
    | (cases e; done)
    | (rename_i k a k' b
       cases hx; cases hy
       split at e
       · rename_i hk
         have hk : k = k' := by simpa using hk
         subst hk
         cases e
         constructor
         · simp [eqGuard, binOp, Op.intArith, Op.intCmp]
         · constructor
       · cases e)

theorem bytesOf_sound {μ : Mu} : ∀ {l l' : List Value} {r : List UInt8}, VRL μ l l' → bytesOf l = some r → l' = r.map fun b => Value.int .u8 b.toNat
  | _, _, r, .nil, e => by
    simp [bytesOf] at e
    subst e
    simp
  | _, _, r, .cons h t, e => by
    unfold bytesOf at e
    split at e
    · rename_i hh; cases hh
    · rename_i n l hh
      cases hh
      cases h
      split at e
      · rename_i r' hr
        split at e
        · rename_i hn
          cases e
          have hn : (n.toNat % 256 : Int) = n := by simpa using hn
          rw [bytesOf_sound t hr]
          simp
          omega
        · cases e
      · cases e
    · cases e

def b2sStep (c : Value) (s : ByteArray) : Sem (ForInStep ByteArray) :=
  match c with
  | .int .u8 n => pure (.yield (s.push (UInt8.ofNat n.toNat)))
  | _ => do
    stuck "bytesToString: byte expected"
    pure (.yield s)

theorem run_b2sLoop (P : Program) (w : World) : ∀ (l : List UInt8) (acc : ByteArray), (forIn (l.map fun b => Value.int .u8 b.toNat) acc b2sStep).run P w = .ok ⟨(acc.data.toList ++ l).toArray⟩ w
  | [], acc => by simp
  | b :: l, acc => by
    have ih := run_b2sLoop P w l (acc.push b)
    simp only [List.map_cons, List.forIn_cons, Sem.run_bind]
    have : (b2sStep (.int .u8 (b.toNat : Int)) acc).run P w = .ok (.yield (acc.push b)) w := by
      simp [b2sStep]
    rw [this]
    simp only [Result.andThen_ok, ih]
    congr 2
    apply Array.ext'
    simp [ByteArray.push]

theorem run_b2s (P : Program) (w : World) (A : Addr) (l : List UInt8) (cap : Nat) (h : (loadCells A l.length).run P w = .ok (l.map fun b => Value.int .u8 b.toNat).toArray w) :
    (Conv.bytesToString (.slice (some A) l.length cap)).run P w = .ok (.string ⟨l.toArray⟩) w := by
  have key := run_b2sLoop P w l .empty
  unfold Conv.bytesToString
  simp only [Sem.run_bind, h, Result.andThen_ok, List.forIn_toArray]
  refine Eq.trans (congrArg (fun r => Result.andThen r _) key) ?_
  simp [ByteArray.empty, ByteArray.emptyWithCapacity]
  rfl

end Go.AX

/- Pointers held against each other, and made unsafe and back. -/
namespace Go.AX

theorem aptrEq_sound {E : Env} (hE : EnvOk E) {μ : Mu} {w : World} {t : TypeId} {x y x' y' : Value} {r : Bool} (hx : VR μ x x') (hy : VR μ y y') (e : aptrEq E t x y = some r) :
    (Op.equal t x' y').run E.P w = .ok r w ∧ (∀ k a, x' ≠ .int k a) ∧ (∀ k a, x' ≠ .float k a) ∧ (∀ k a b, x' ≠ .complex k a b) ∧ (∀ s, x' ≠ .string s) ∧ ¬ (∃ a b, x' = .agg a ∧ y' = .agg b) ∧ ¬ (x' = .nilIface ∧ y' = .nilIface) := by
  have h1 : Op.equal t x' y' = Op.equalIn (9999 + 1) t x' y' := rfl
  rw [h1, Op.equalIn]
  unfold aptrEq at e
  split at e
  · rename_i b i b' i' el hu
    split at e
    · rename_i n hsz hb hi
      have hb := Nat.eq_of_beq_eq_true hb
      have hi := Nat.eq_of_beq_eq_true hi
      subst hb
      subst hi
      cases e
      cases hx with
      | ptr hm =>
        rename_i m
        cases hy with
        | ptr hm' =>
          rw [hm] at hm'
          cases hm'
          simp [run_und hE hu, run_size hE hsz, sameAddr]
    · cases e
  · cases e

theorem shape_of {μ : Mu} {m : M} {w : World} {c : T Value} {n : Nat} {cap : Cap} {tw : Tw} (h : OR μ m w (.cells c n cap tw)) : ∃ sz, w.shape? m.B = some (tw.el, sz) ∧ m.o + m.room ≤ sz ∧ (cap = .exact → m.o = 0 ∧ sz = n) ∧ n ≤ m.room := by
  obtain ⟨h1, h2, cs, el, fz, h3, h4, h5, h6⟩ := h
  obtain ⟨cs', fz', h7, h8⟩ := h2.2
  rw [h3] at h7
  cases h7
  exact ⟨cs.size, by simp [World.shape?, h3], h4, h8, h1⟩

theorem seenAt_self {P : Program} {w : World} {B o sz : Nat} {el : TypeId} (h : w.shape? B = some (el, sz)) : (Conv.seenAt ⟨B, o, none⟩).run P w = .ok ⟨B, o, none⟩ w := by
  simp [Conv.seenAt, viewAt, h]

theorem toUnsafe_run {E : Env} (hE : EnvOk E) {w : World} {src dst t : TypeId} (hs : E.und src = some (.pointer t)) (hd : E.und dst = some .unsafePointer) {n : Nat} (ht : E.size t = some (n + 1)) {B o sz : Nat} {el : TypeId} (hsh : w.shape? B = some (el, sz)) (hlt : o < sz) :
    (convert src dst (.pointer (some ⟨B, o, none⟩))).run E.P w = .ok (.pointer (some ⟨B, o, none⟩)) w := by
  simp [convert, run_und hE hs, run_und hE hd, Conv.unsafePointer, seenAt_self hsh, cellsIn, hsh, run_size hE ht]
  omega

theorem ofUnsafe_run {E : Env} (hE : EnvOk E) {w : World} {src dst u : TypeId} (hs : E.und src = some .unsafePointer) (hd : E.und dst = some (.pointer u)) {k : Nat} (hk : (sizeOf u).run E.P w = .ok k w) {B o sz : Nat} {el : TypeId} (hsh : w.shape? B = some (el, sz))
    (hlies : liesAt E.P E.P.depth el (sz / E.P.cellsOf el) o u 1 = true) : (convert src dst (.pointer (some ⟨B, o, none⟩))).run E.P w = .ok (.pointer (some ⟨B, o, none⟩)) w := by
  simp [convert, run_und hE hs, run_und hE hd, Conv.unsafePointer, seenAt_self hsh, hk, variablesAt, hsh, hlies]

theorem ptr_conv_nil {E : Env} (hE : EnvOk E) {w : World} {src dst t : TypeId} (h : (E.und src = some (.pointer t) ∧ E.und dst = some .unsafePointer) ∨ (E.und src = some .unsafePointer ∧ E.und dst = some (.pointer t))) :
    (convert src dst (.pointer none)).run E.P w = .ok (.pointer none) w := by
  rcases h with ⟨h1, h2⟩ | ⟨h1, h2⟩ <;> simp [convert, run_und hE h1, run_und hE h2, Conv.unsafePointer]

theorem isFn_spec {fn : Func} {name : String} (h : isFn fn name = true) : fn.name = name ∧ fn.origin = "" := by
  unfold isFn at h
  split at h
  · rename_i h1
    exact ⟨of_decide_eq_true h1, of_decide_eq_true h⟩
  · cases h

theorem next_of {fn : Func} {name : String} (h : isFn fn name = true) (hn : Extern.allNextRows.lookup name = none) : Extern.findNext fn = none := by
  obtain ⟨h1, h2⟩ := isFn_spec h
  have h0 : Extern.allNextRows.lookup "" = none := by kernel_rfl
  simp only [Extern.findNext, h1, h2, hn, h0]
  rfl

theorem noEscape_run {P : Program} {w : World} {f : FuncId} {fn : Func} (hf : P.funcs[f]? = some fn) (hb : fn.body = none) (h : isFn fn "internal/abi.NoEscape" = true) (x : Value) :
    (callFunc f #[x]).run P w = .ok (.value x) w := by
  have h1 := next_of h (by kernel_rfl)
  have h2 : Extern.find fn = some Extern.AbiNoEscape.same := by
    obtain ⟨h3, h4⟩ := isFn_spec h
    have g1 : Extern.allGenericRows.lookup "internal/abi.NoEscape" = none := by kernel_rfl
    have g2 : Extern.allTypedRows.lookup "internal/abi.NoEscape" = none := by kernel_rfl
    have g3 : Extern.allRows.lookup "internal/abi.NoEscape" = some Extern.AbiNoEscape.same := by kernel_rfl
    simp only [Extern.find, h3, g1, g2, g3]
    rfl
  have h5 := (isFn_spec h).1
  have hne : ¬ fn.name = "runtime.NumGoroutine" := by rw [h5]; decide
  have h6 : Extern.AbiNoEscape.same #[x] = pure x := rfl
  simp [callFunc, hf, hne, hb, h1, h2, mark, h6]
  rfl

theorem sliceData_run {P : Program} {w : World} {at_ : Array TypeId} {ty : TypeId} {A : Addr} {n c : Nat} (h : c ≠ 0) : (Builtin.unsafeSliceData_ at_ ty #[.slice (some A) n c]).run P w = .ok (.pointer (some A)) w := by
  show Sem.run P (if c ≠ 0 then pure _ else _) w = _
  rw [if_pos h]
  rfl

end Go.AX

namespace Go.AX

theorem bytes_get (s : ByteArray) (k : Nat) : s[k]? = s.data.toList[k]? := by
  by_cases hk : k < s.size
  · rw [getElem?_pos s k hk]
    have : k < s.data.toList.length := by rw [Array.length_toList]; exact hk
    rw [List.getElem?_eq_getElem this]
    rfl
  · rw [getElem?_neg s k hk, List.getElem?_eq_none (by rw [Array.length_toList]; exact Nat.le_of_not_lt hk)]

theorem argsRel {μ : Mu} {ρ a : Operand → Value} {args : Array Operand} (hx : ∀ x ∈ args.toList, VR μ (ρ x) (a x)) : VRL μ (args.toList.map ρ) (args.map a).toList := by
  rw [Array.toList_map]
  exact VRL.map _ hx

set_option maxHeartbeats 1000000 in
theorem aquiet_sound {E : Env} (hE : EnvOk E) {μ : Mu} {h : H} {w : World} (hr : HR μ h w) {ρ a : Operand → Value} {o : Oper} {v : Value}
    (hx : ∀ x ∈ o.op.operands, VR μ (ρ x) (a x)) (e : aquiet E ρ h o = some v) : ∃ v', (execOp a o).run E.P w = .ok (.value v') w ∧ VR μ v v' := by
  have gen := agen_sound (E := E) (μ := μ) (w := w) (ρ := ρ) (a := a) (o := o) (v := v) hx
  obtain ⟨dst, op, type, pos, after, guard⟩ := o
  unfold aquiet at e
  dsimp only at e hx
  split at e
  · cases e; exact ⟨_, rfl, hx _ (by simp [Op.operands])⟩
  · cases e; exact ⟨_, rfl, hx _ (by simp [Op.operands])⟩
  · -- pick
    rename_i c x y
    have hc := hx c (by simp [Op.operands])
    split at e
    · rename_i hb
      rw [hb] at hc
      cases e
      refine ⟨a x, ?_, hx x (by simp [Op.operands])⟩
      generalize hac : a c = ac at hc
      cases hc
      simp [execOp, hac, asBool]
    · rename_i hb
      rw [hb] at hc
      cases e
      refine ⟨a y, ?_, hx y (by simp [Op.operands])⟩
      generalize hac : a c = ac at hc
      cases hc
      simp [execOp, hac, asBool]
    · cases e
  · -- load
    rename_i t x
    obtain ⟨A, v', h1, h2, h3⟩ := aload_sound hE hr (hx x (by simp [Op.operands])) e
    refine ⟨v', ?_, h3⟩
    simp only [execOp]
    apply run_v
    simp [Instr.loadAt, h1, Instr.sureAddr, h2]
  · -- nilCheck
    rename_i x
    have hc := hx x (by simp [Op.operands])
    generalize hac : a x = ac at hc
    split at e
    · rename_i A hb
      rw [hb] at hc
      cases e
      cases hc with
      | ptr hm => exact ⟨_, by simp only [execOp, hac]; rfl, .ptr hm⟩
    · rename_i f p q hb
      rw [hb] at hc
      cases e
      cases hc with
      | func h1 h2 => exact ⟨_, by simp only [execOp, hac]; rfl, .func h1 h2⟩
    · rename_i t u hb
      rw [hb] at hc
      cases e
      cases hc with
      | iface h1 => exact ⟨_, by simp only [execOp, hac]; rfl, .iface h1⟩
    · cases e
  · -- fieldAddr
    rename_i t x f
    have hc := hx x (by simp [Op.operands])
    generalize hac : a x = ac at hc
    split at e
    · rename_i b i fs hb hu
      rw [hb] at hc
      cases hc with
      | ptr hm =>
        split at e
        · rename_i fd hf
          split at e
          · rename_i w1 hsz
            cases e
            refine ⟨_, ?_, .ptr hm⟩
            simp only [execOp]
            apply run_v
            simp [Instr.fieldAt, run_und hE hu, hf, hac, Instr.sureAddr, fieldPlace, run_size hE hsz, Addr.add_mk, Nat.add_assoc]
          · cases e
        · cases e
    · cases e
  · -- field
    rename_i t x f
    have hc := hx x (by simp [Op.operands])
    generalize hac : a x = ac at hc
    split at e
    · rename_i cs fs hb hu
      rw [hb] at hc
      cases hc with
      | agg hm =>
        split at e
        · rename_i fd hf
          obtain ⟨v', h1, h2⟩ := part_sound hE (w := w) hm e
          refine ⟨v', ?_, h2⟩
          simp only [execOp]
          apply run_v
          simp [Instr.field, run_und hE hu, hf, hac, asAgg, h1]
        · cases e
    · cases e
  · -- indexAddr
    rename_i t x ix
    have hc := hx x (by simp [Op.operands])
    have hi := hx ix (by simp [Op.operands])
    generalize hac : a x = ac at hc
    split at e
    · rename_i b i len z el hb hu
      rw [hb] at hc
      split at e
      · rename_i k w1 hk hsz
        obtain ⟨kd, hki, hlt⟩ := asIdx_sound hi hk
        split at e
        · rename_i hz
          have hz : z = w1 + 1 := by simpa using hz
          subst hz
          cases e
          cases hc with
          | slice hm hroom hle =>
            refine ⟨_, ?_, .ptr hm⟩
            simp only [execOp]
            apply run_v
            simp [Instr.indexAt, hki, asIntOf, run_und hE hu, hac, hlt, run_size hE hsz, Addr.add_mk, Nat.add_assoc]
          | slice0 => omega
        · cases e
      · cases e
    · rename_i b i len el hb hu
      rw [hb] at hc
      split at e
      · rename_i k w1 hk hsz
        obtain ⟨kd, hki, hlt⟩ := asIdx_sound hi hk
        cases e
        cases hc with
        | ptr hm =>
          refine ⟨_, ?_, .ptr hm⟩
          simp only [execOp]
          apply run_v
          simp [Instr.indexAt, hki, asIntOf, run_und hE hu, hac, hlt, run_size hE hsz, Addr.add_mk, Nat.add_assoc, Instr.sureAddr]
      · cases e
    · cases e
  · -- index
    rename_i t x ix
    have hc := hx x (by simp [Op.operands])
    have hi := hx ix (by simp [Op.operands])
    generalize hac : a x = ac at hc
    split at e
    · rename_i s hb hu
      rw [hb] at hc
      split at e
      · rename_i k hk
        obtain ⟨kd, hki, hlt⟩ := asIdx_sound hi hk
        split at e
        · rename_i c hcc
          cases e
          cases hc
          refine ⟨_, ?_, .int _ _⟩
          simp only [execOp]
          apply run_v
          have h2 : s[k]? = some c := by
            rw [← hcc]
            exact bytes_get s k
          simp [Instr.index, hki, asIntOf, run_und hE hu, hac, h2]
        · cases e
      · cases e
    · rename_i cs len el hb hu
      rw [hb] at hc
      split at e
      · rename_i k w1 hk hsz
        obtain ⟨kd, hki, hlt⟩ := asIdx_sound hi hk
        cases hc with
        | agg hm =>
          obtain ⟨v', h1, h2⟩ := part_sound hE (w := w) hm e
          refine ⟨v', ?_, h2⟩
          simp only [execOp]
          apply run_v
          simp [Instr.index, hki, asIntOf, run_und hE hu, hac, hlt, run_size hE hsz, h1]
      · cases e
    · cases e
  · -- slice
    rename_i t x lo hi
    obtain ⟨v', h1, h2⟩ := aslice_sound hE hr (a := a) (hx x (by simp [Op.operands])) (fun y hy => hx y (by simp [Op.operands]; simp at hy; simp [hy])) (fun y hy => hx y (by simp [Op.operands]; simp at hy; simp [hy])) e
    refine ⟨v', ?_, h2⟩
    simp only [execOp]
    exact run_v h1
  · -- build
    rename_i t parts
    obtain ⟨v', h1, h2⟩ := abuild_sound hE (w := w) (a := a) (fun x hm => hx x (by simpa [Op.operands] using hm)) e
    refine ⟨v', ?_, h2⟩
    simp only [execOp]
    exact run_v h1
  · -- makeInterface
    rename_i t x
    have hc := hx x (by simp [Op.operands])
    split at e
    · cases e
    · rename_i d hni hu
      cases e
      refine ⟨_, ?_, .iface hc⟩
      simp only [execOp]
      apply run_v
      simp only [Instr.makeInterface, Sem.run_bind, run_und hE hu, Result.andThen_ok]
      cases d <;> first | rfl | exact absurd rfl (hni _)
    · cases e
  · -- typeAssert
    rename_i x xt t ok
    have hc := hx x (by simp [Op.operands])
    generalize hac : a x = ac at hc
    split at e
    · cases e
    · rename_i t' u d hni hb hu
      rw [hb] at hc
      cases hc with
      | iface hv =>
        rename_i u'
        split at e
        · rename_i ht
          have ht : t' = t := by simpa using ht
          subst ht
          cases e
          refine ⟨_, ?_, okv_rel (b := true) hv⟩
          simp only [execOp]
          apply run_v
          simp only [Instr.typeAssert, Sem.run_bind, run_und hE hu, Result.andThen_ok, hac]
          cases d <;> first | exact absurd rfl (hni _) | (cases ok <;> simp)
        · rename_i ht
          have ht : ¬ t' = t := Nat.ne_of_beq_eq_false ht
          split at e
          · rename_i z hz
            cases e
            refine ⟨_, ?_, okv_rel (b := false) (flat_refl μ z (zero_flat hE hz))⟩
            simp only [execOp]
            apply run_v
            simp only [Instr.typeAssert, Sem.run_bind, run_und hE hu, Result.andThen_ok, hac]
            cases d <;> first | exact absurd rfl (hni _) | simp [ht, run_zero hE hz]
          · cases e
    · rename_i d hni hb hu
      rw [hb] at hc
      cases hc
      split at e
      · rename_i z hz
        cases e
        refine ⟨_, ?_, okv_rel (b := false) (flat_refl μ z (zero_flat hE hz))⟩
        simp only [execOp]
        apply run_v
        simp only [Instr.typeAssert, Sem.run_bind, run_und hE hu, Result.andThen_ok, hac]
        cases d <;> first | exact absurd rfl (hni _) | simp [run_zero hE hz]
      · cases e
    · cases e
  · -- makeFunc
    rename_i fn first cap
    split at e
    · cases e
      refine ⟨_, rfl, .func ?_ ?_⟩
      · simp only [Array.toList_map]
        exact VRL.map _ fun x hm => hx x (by simp [Op.operands]; simp at hm; exact .inl hm)
      · simp only [Array.toList_map]
        exact VRL.map _ fun x hm => hx x (by simp [Op.operands]; simp at hm; exact .inr hm)
    · cases e
  · -- extract
    rename_i x i
    have hc := hx x (by simp [Op.operands])
    generalize hac : a x = ac at hc
    split at e
    · rename_i vs hb
      rw [hb] at hc
      cases hc with
      | tuple hm =>
        rename_i vs'
        obtain ⟨v', h1, h2⟩ := hm.get e
        refine ⟨v', ?_, h2⟩
        simp only [execOp]
        apply run_v
        have h1 : vs'[i]? = some v' := by simpa using h1
        simp [Instr.extract, hac, h1]
    · cases e
  · -- binOp
    rename_i op' t x y yt
    have h1 := hx x (by simp [Op.operands])
    have h2 := hx y (by simp [Op.operands])
    split at e
    · rename_i u hu
      cases e
      obtain ⟨h3, h4⟩ := abin_sound (P := E.P) (w := w) (t := t) (xo := x) (yo := y) h1 h2 hu
      exact ⟨v, by simp only [execOp]; exact run_v h3, h4⟩
    · split at e
      · rename_i r hr'
        cases e
        have := binOp_eq (xo := x) (yo := y) (aeq_sound hE (w := w) (t := t) h1 h2 (by assumption)) (.inl rfl)
        exact ⟨_, by simp only [execOp]; exact run_v this, .bool _⟩
      · rename_i r hr'
        cases e
        have := binOp_eq (xo := x) (yo := y) (aeq_sound hE (w := w) (t := t) h1 h2 (by assumption)) (.inr rfl)
        exact ⟨_, by simp only [execOp]; exact run_v this, .bool _⟩
      · split at e
        · rename_i r hr'
          cases e
          have := binOp_eq (xo := x) (yo := y) (aptrEq_sound hE (w := w) (t := t) h1 h2 (by assumption)) (.inl rfl)
          exact ⟨_, by simp only [execOp]; exact run_v this, .bool _⟩
        · rename_i r hr'
          cases e
          have := binOp_eq (xo := x) (yo := y) (aptrEq_sound hE (w := w) (t := t) h1 h2 (by assumption)) (.inr rfl)
          exact ⟨_, by simp only [execOp]; exact run_v this, .bool _⟩
        · exact gen e
  · exact gen e
  · -- convert
    rename_i src dst' x
    have hc := hx x (by simp [Op.operands])
    split at e
    · rename_i el hs hd
      split at e
      · rename_i av len z he hb
        generalize hac : a x = ac at hc
        rw [hb] at hc
        have run0 : ∀ {s : ByteArray} {n c : Nat} {A : Option Addr}, ac = .slice A n c → (Conv.bytesToString ac).run E.P w = .ok (.string s) w → (execOp a ⟨dst, .convert src dst' x, type, pos, after, guard⟩).run E.P w = .ok (.value (.string s)) w := by
          intro s n c A hA hcv
          simp only [execOp]
          apply run_v
          subst hA
          simp only [convert, Sem.run_bind, run_und hE hs, run_und hE hd, run_und hE he, Result.andThen_ok, hac]
          exact hcv
        split at e
        · cases e
          cases hc
          refine ⟨_, run0 rfl ?_, .string _⟩
          rfl
        · rename_i b i
          split at e
          · cases e
            have hz0 : ∀ {A : Option Addr} {c : Nat}, ac = .slice A 0 c → (Conv.bytesToString ac).run E.P w = .ok (.string ⟨#[]⟩) w := by
              rintro A c rfl
              cases A with
              | none => rfl
              | some A => exact run_b2s E.P w A [] c rfl
            cases hc with
            | slice hm hroom hle => exact ⟨_, run0 rfl (hz0 rfl), .string _⟩
            | slice0 h0 => exact ⟨_, run0 rfl (hz0 rfl), .string _⟩
          split at e
          · rename_i l hz hl
            have hz : z = 1 := by simpa using hz
            subst hz
            split at e
            · rename_i r hb2
              cases e
              cases hc with
              | slice hm hroom hle =>
                obtain ⟨l', h1, h2, h3⟩ := read_sound hr hm hl
                have h4 := bytesOf_sound h1 hb2
                have hlen : r.length = l'.length := by rw [h4]; simp
                refine ⟨_, run0 rfl ?_, .string _⟩
                have hlen2 : r.length = _ := hlen.trans h2
                exact run_b2s E.P w _ r _ (by rw [hlen2, ← h4]; exact read_loadCells h2 h3) |> fun q => by rw [hlen2] at q; exact q
            · cases e
          · cases e
        · cases e
      · cases e
    · cases e
    · -- made unsafe
      rename_i t hs hd
      split at e
      · rename_i b i hb
        rw [hb] at hc
        generalize hac : a x = ac at hc
        cases hc with
        | ptr hm =>
          rename_i m
          split at e
          · rename_i c n cap tw k hobj hsz
            split at e
            · rename_i hlt
              have hlt : i < n := by simpa [Nat.blt_eq] using hlt
              cases e
              have ho := hr.ok b m hm
              rw [hobj] at ho
              obtain ⟨sz, h1, h2, h3, h4⟩ := shape_of ho
              refine ⟨_, ?_, .ptr hm⟩
              simp only [execOp, hac]
              exact run_v (toUnsafe_run hE hs hd hsz h1 (by omega))
            · cases e
          · cases e
      · rename_i hb
        cases e
        rw [hb] at hc
        generalize hac : a x = ac at hc
        cases hc
        refine ⟨_, ?_, .nilPtr⟩
        simp only [execOp, hac]
        exact run_v (ptr_conv_nil hE (.inl ⟨hs, hd⟩))
      · cases e
    · -- and back
      rename_i u hs hd
      split at e
      · rename_i b i hb
        rw [hb] at hc
        generalize hac : a x = ac at hc
        cases hc with
        | ptr hm =>
          rename_i m
          split at e
          · rename_i c n tw hobj
            split at e
            · rename_i k hsz hlies
              cases e
              have ho := hr.ok b m hm
              rw [hobj] at ho
              obtain ⟨sz, h1, h2, h3, h4⟩ := shape_of ho
              obtain ⟨h5, h6⟩ := h3 rfl
              subst h6
              refine ⟨_, ?_, .ptr hm⟩
              rw [h5, Nat.zero_add]
              simp only [execOp, hac]
              rw [h5, Nat.zero_add]
              exact run_v (ofUnsafe_run hE hs hd (run_size hE hsz w) h1 hlies)
            · cases e
          · cases e
      · rename_i hb
        cases e
        rw [hb] at hc
        generalize hac : a x = ac at hc
        cases hc
        refine ⟨_, ?_, .nilPtr⟩
        simp only [execOp, hac]
        exact run_v (ptr_conv_nil hE (.inr ⟨hs, hd⟩))
      · cases e
    · cases e
    · exact gen e
  · -- lookup
    rename_i t m k ok
    obtain ⟨v', h1, h2⟩ := alookup_sound hE hr (hx m (by simp [Op.operands])) (hx k (by simp [Op.operands])) e
    refine ⟨v', ?_, h2⟩
    simp only [execOp]
    exact run_v h1
  · -- call
    rename_i c
    split at e
    · rename_i b hb
      split at e
      · rename_i u hu
        cases e
        split at hu
        · rename_i t rest hat
          obtain ⟨v', h1, h2⟩ := abuiltin_sound hE hr hat type (c.args.map fun | .const _ => true | _ => false) (argsRel (a := a) fun x hm => hx x (by simp [Op.operands, Call.operands]; simp at hm; exact .inr hm)) hu
          refine ⟨v', ?_, h2⟩
          simp only [execOp, resolve, hb, Sem.run_bind, Sem.run_pure, Result.andThen_ok, invoke]
          exact h1
        · cases hu
      · split at e
        · -- unsafe.SliceData
          split at e
          · rename_i b i len z hargs
            cases e
            have hrel : VRL μ (c.args.toList.map ρ) (c.args.map a).toList := argsRel (a := a) fun x hm => hx x (by simp [Op.operands, Call.operands]; simp at hm; exact .inr hm)
            rw [hargs] at hrel
            generalize hal : (c.args.map a) = al at hrel
            obtain ⟨al⟩ := al
            cases hrel with
            | cons h1 h2 =>
              cases h2
              cases h1 with
              | slice hm hroom hle =>
                rename_i cap m
                refine ⟨_, ?_, .ptr hm⟩
                have hne : cap ≠ 0 := by omega
                simp only [execOp, resolve, hb, Sem.run_bind, Sem.run_pure, Result.andThen_ok, invoke, builtin, hal]
                simp only [sliceData_run hne, Result.andThen_ok]
          · cases e
        all_goals first | (cases e; done) | exact gen e
    · rename_i f hcal
      split at e
      · rename_i fn hfn
        split at e
        · rename_i hbody
          split at e
          · rename_i v' hname hargs
            split at e
            rotate_left
            · cases e
            rename_i g hg
            split at e
            rotate_left
            · cases e
            rename_i hfg
            have hfg := Nat.eq_of_beq_eq_true hfg
            subst hfg
            cases e
            have hfun := hx (.func f) (by simp [Op.operands, Call.operands, hcal])
            rw [hg] at hfun
            generalize haf : a (.func f) = af at hfun
            have hrel : VRL μ (c.args.toList.map ρ) (c.args.map a).toList := argsRel (a := a) fun x hm => hx x (by simp [Op.operands, Call.operands]; simp at hm; exact .inr hm)
            rw [hargs] at hrel
            generalize hal : (c.args.map a) = al at hrel
            obtain ⟨al⟩ := al
            cases hrel with
            | cons h1 h2 =>
              cases h2
              refine ⟨_, ?_, h1⟩
              have h3 := noEscape_run (w := w) (hE.fn _ _ hfn) hbody hname
              cases hfun with
              | func ha hc =>
                rename_i ga gc
                obtain ⟨ga⟩ := ga
                obtain ⟨gc⟩ := gc
                cases ha
                cases hc
                simp only [execOp, resolve, hcal, Sem.run_bind, Sem.run_pure, Result.andThen_ok, invoke, Deferred.ofValue, hal, haf]
                exact h3 _
          · exact gen e
        · cases e
      · cases e
    · cases e
  · cases e

end Go.AX
