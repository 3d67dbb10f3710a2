/-
  The abstract evaluator: effects, regions, code, calls (no proof here).
-/
import GoSem.Dispatch
import GoSem.Core.Region
set_option linter.unusedSectionVars false
set_option linter.unusedVariables false
set_option linter.unusedSimpArgs false
namespace Ev
open Go
inductive T (α : Type) where
  | e
  | n (l : T α) (v : Option α) (r : T α)
noncomputable section
namespace T
variable {α : Type}
noncomputable def get (t : T α) : Nat → Option α :=
  T.rec (motive := fun _ => Nat → Option α) (fun _ => none) (fun _ v _ gl gr k => Nat.rec (motive := fun _ => Option α) v (fun _ _ => Bool.rec (motive := fun _ => Option α) (gr (Nat.pred (Nat.div k (nat_lit 2)))) (gl (Nat.div k (nat_lit 2))) (Nat.beq (Nat.mod k (nat_lit 2)) (nat_lit 1))) k) t
theorem get_e (k : Nat) : (T.e : T α).get k = none := rfl
theorem get_n (l : T α) (v : Option α) (r : T α) (k : Nat) : (T.n l v r).get k = cond (Nat.beq k 0) v (cond (Nat.beq (k % 2) 1) (l.get (k / 2)) (r.get (k / 2 - 1))) := by
  cases k with
  | zero => rfl
  | succ k =>
    show Bool.rec (motive := fun _ => Option α) (r.get ((k + 1) / 2 - 1)) (l.get ((k + 1) / 2)) (Nat.beq ((k + 1) % 2) 1) = cond (Nat.beq ((k + 1) % 2) 1) (l.get ((k + 1) / 2)) (r.get ((k + 1) / 2 - 1))
    cases Nat.beq ((k + 1) % 2) 1 <;> rfl
def left : T α → T α | .e => .e | .n l _ _ => l
def right : T α → T α | .e => .e | .n _ _ r => r
def val : T α → Option α | .e => none | .n _ v _ => v
noncomputable def put (f : Nat) (t : T α) (k : Nat) (x : Option α) : T α :=
  Nat.rec (motive := fun _ => T α → Nat → T α) (fun t _ => t) (fun _ ih t k =>
    T.rec (motive := fun _ => T α)
      (Nat.rec (motive := fun _ => T α) (.n .e x .e) (fun _ _ => Bool.rec (motive := fun _ => T α) (.n .e none (ih .e (Nat.pred (Nat.div k (nat_lit 2))))) (.n (ih .e (Nat.div k (nat_lit 2))) none .e) (Nat.beq (Nat.mod k (nat_lit 2)) (nat_lit 1))) k)
      (fun l v r _ _ => Nat.rec (motive := fun _ => T α) (.n l x r) (fun _ _ => Bool.rec (motive := fun _ => T α) (.n l v (ih r (Nat.pred (Nat.div k (nat_lit 2))))) (.n (ih l (Nat.div k (nat_lit 2))) v r) (Nat.beq (Nat.mod k (nat_lit 2)) (nat_lit 1))) k) t) f t k
theorem put_succ (f : Nat) (t : T α) (k : Nat) (x : Option α) : put (f + 1) t k x =
    cond (Nat.beq k 0) (.n t.left x t.right) (cond (Nat.beq (k % 2) 1) (.n (put f t.left (k / 2) x) t.val t.right) (.n t.left t.val (put f t.right (k / 2 - 1) x))) := by
  cases k with
  | zero => cases t <;> rfl
  | succ k =>
    cases t with
    | e =>
      show Bool.rec (motive := fun _ => T α) (.n .e none (put f .e ((k + 1) / 2 - 1) x)) (.n (put f .e ((k + 1) / 2) x) none .e) (Nat.beq ((k + 1) % 2) 1) = cond (Nat.beq ((k + 1) % 2) 1) (.n (put f .e ((k + 1) / 2) x) none .e) (.n .e none (put f .e ((k + 1) / 2 - 1) x))
      cases Nat.beq ((k + 1) % 2) 1 <;> rfl
    | n l v r =>
      show Bool.rec (motive := fun _ => T α) (.n l v (put f r ((k + 1) / 2 - 1) x)) (.n (put f l ((k + 1) / 2) x) v r) (Nat.beq ((k + 1) % 2) 1) = cond (Nat.beq ((k + 1) % 2) 1) (.n (put f l ((k + 1) / 2) x) v r) (.n l v (put f r ((k + 1) / 2 - 1) x))
      cases Nat.beq ((k + 1) % 2) 1 <;> rfl
def set (t : T α) (k : Nat) (x : α) : T α := t.put (k + 1) k (some x)
def del (t : T α) (k : Nat) : T α := t.put (k + 1) k none
def ofList (t : T α) : Nat → List α → T α
  | _, [] => t
  | k, x :: xs => ofList (t.set k x) (k + 1) xs
end T
inductive V where
  | bool (b : Bool)
  | int (k : IntKind) (n : Int)
  | str (s : List UInt8)
  | ptr (n off : Nat)
  | nilp
  | slice (n off len cap : Nat)
  | nils
  | map (n : Nat)
  | nilm
  | fn (f : Nat) (first cap : List V)
  | yld (l : Nat)
  | nilf
  | iface (t : Nat) (v : V)
  | nili
  | agg (cs : List V)
  | tup (vs : List V)
  | sym (i : Nat)
  deriving Inhabited
def kindEq : IntKind → IntKind → Bool
  | .i8, .i8 | .i16, .i16 | .i32, .i32 | .i64, .i64 | .u8, .u8 | .u16, .u16 | .u32, .u32 | .u64, .u64 => true
  | _, _ => false
def intEq : Int → Int → Bool
  | .ofNat a, .ofNat b => Nat.beq a b
  | .negSucc a, .negSucc b => Nat.beq a b
  | _, _ => false
def natsEq : List Nat → List Nat → Bool
  | [], [] => true
  | a :: x, b :: y => cond (Nat.beq a b) (natsEq x y) false
  | _, _ => false
def bytesEq : List UInt8 → List UInt8 → Bool
  | [], [] => true
  | a :: x, b :: y => cond (Nat.beq a.toNat b.toNat) (bytesEq x y) false
  | _, _ => false
def eqBool (a : Bool) : V → Bool | .bool b => a == b | _ => false
def eqInt (j : IntKind) (a : Int) : V → Bool | .int k b => kindEq j k && intEq a b | _ => false
def eqStr (a : List UInt8) : V → Bool | .str b => bytesEq a b | _ => false
def eqPtr (a b : Nat) : V → Bool | .ptr c d => Nat.beq a c && Nat.beq b d | _ => false
def eqNilp : V → Bool | .nilp => true | _ => false
def eqSlice (a b c d : Nat) : V → Bool | .slice e f g h => Nat.beq a e && Nat.beq b f && Nat.beq c g && Nat.beq d h | _ => false
def eqNils : V → Bool | .nils => true | _ => false
def eqMap (a : Nat) : V → Bool | .map b => Nat.beq a b | _ => false
def eqNilm : V → Bool | .nilm => true | _ => false
def eqFn (f : Nat) (x y : List V → Bool) : V → Bool | .fn g c d => Nat.beq f g && x c && y d | _ => false
def eqYld (a : Nat) : V → Bool | .yld b => Nat.beq a b | _ => false
def eqNilf : V → Bool | .nilf => true | _ => false
def eqIface (t : Nat) (v : V → Bool) : V → Bool | .iface u w => Nat.beq t u && v w | _ => false
def eqNili : V → Bool | .nili => true | _ => false
def eqAgg (x : List V → Bool) : V → Bool | .agg b => x b | _ => false
def eqTup (x : List V → Bool) : V → Bool | .tup b => x b | _ => false
def eqSym (a : Nat) : V → Bool | .sym b => Nat.beq a b | _ => false
def eqNil : List V → Bool | [] => true | _ => false
def eqCons (a : V → Bool) (x : List V → Bool) : List V → Bool | [] => false | b :: y => cond (a b) (x y) false
noncomputable def V.eq (a : V) : V → Bool :=
  V.rec (motive_1 := fun _ => V → Bool) (motive_2 := fun _ => List V → Bool) eqBool eqInt eqStr eqPtr eqNilp eqSlice eqNils eqMap eqNilm (fun f _ _ x y => eqFn f x y) eqYld eqNilf (fun t _ v => eqIface t v) eqNili (fun _ x => eqAgg x) (fun _ x => eqTup x) eqSym
    eqNil (fun _ _ a x => eqCons a x) a
noncomputable def V.eqL (a : List V) : List V → Bool :=
  V.rec_1 (motive_1 := fun _ => V → Bool) (motive_2 := fun _ => List V → Bool) eqBool eqInt eqStr eqPtr eqNilp eqSlice eqNils eqMap eqNilm (fun f _ _ x y => eqFn f x y) eqYld eqNilf (fun t _ v => eqIface t v) eqNili (fun _ x => eqAgg x) (fun _ x => eqTup x) eqSym
    eqNil (fun _ _ a x => eqCons a x) a
structure Lft where
  must : List (V × V)
  may : List (V × V)
  k : Nat
inductive O where
  | cells (c : List V) (elem unit : Nat) (frz : Bool)
  | map (es : List (V × V)) (lock : Option Nat)
  | iter (m : Nat) (left : Lft) (last : Option (V × V))
  | loop (st : LoopState) (pend : Option Code) (t : T V) (ps : List Nat) (assign body : Code) (defers : Nat)
  | defer (isOpen : Bool)
abbrev H := T O
structure RM where
  args : List V
  sub : List O
  v : V
  out : List (Nat × O)
  made : Nat
structure Tab where
  fn : Nat → Option Func
  und : Nat → Option TypeDesc
  inf : Nat → Option TypeInfo
  guard : Nat → Bool
  held : Nat → Bool
  focus : Nat → Bool
  prim : Nat → List V → Option V
  rm : Nat → Option (List RM)
  glob : Nat → Option (List V)
  eqs : V → V → Option Bool
  eqi : V → V → Option Bool
  bin : BinOp → V → V → Option V
  conv : Nat → Nat → V → Option V
  keyS : Nat → Bool
  lenS : Nat → Option Nat
  cutS : Nat → Nat → Nat → Option V := fun _ _ _ => none
  adrS : Nat → Nat → Nat → Option V := fun _ _ _ => none
  ldS : Nat → Nat → Option V := fun _ _ => none
def abs0 : Value → Option V
  | .bool b => some (.bool b)
  | .int k n => some (.int k n)
  | .string s => some (.str s.data.toList)
  | .pointer none => some .nilp
  | .slice none 0 0 => some .nils
  | .map none => some .nilm
  | .nilFunc => some .nilf
  | .nilIface => some .nili
  | _ => none
def abs0L : List Value → Option (List V)
  | [] => some []
  | v :: vs => match abs0 v with
    | none => none
    | some x => match abs0L vs with
      | none => none
      | some xs => some (x :: xs)
def abs : Value → Option V
  | .agg cs => (abs0L cs.toList).map .agg
  | .tuple cs => (abs0L cs.toList).map .tup
  | v => abs0 v
def undefV : V := .tup []
def ev (t : T V) : Operand → Option V
  | .tmp i => t.get i
  | .const v => abs v
  | .global g => cond (Nat.blt g 32) (some (.ptr g 0)) none
  | .func f => some (.fn f [] [])
def evL (t : T V) : List Operand → Option (List V)
  | [] => some []
  | x :: xs => match ev t x with
    | none => none
    | some v => match evL t xs with
      | none => none
      | some vs => some (v :: vs)
def evO (t : T V) : Option Operand → Option (Option V)
  | none => some none
  | some x => (ev t x).map some
def isAggD : TypeDesc → Bool
  | .struct _ | .array _ _ => true
  | _ => false
def Tab.isAgg (tb : Tab) (t : Nat) : Option Bool := (tb.und t).map isAggD
def Tab.size (tb : Tab) (t : Nat) : Option Nat := (tb.inf t).map (·.size)
def cut (c : List V) (off n : Nat) : Option (List V) :=
  let r := (c.drop off).take n
  cond (Nat.beq r.length n) (some r) none
def putCells : List V → List V → Option (List V)
  | c, [] => some c
  | [], _ :: _ => none
  | _ :: c, v :: vs => (putCells c vs).map (v :: ·)
def putAt : Nat → List V → List V → Option (List V)
  | 0, c, vs => putCells c vs
  | _ + 1, [], _ => none
  | n + 1, x :: c, vs => (putAt n c vs).map (x :: ·)
def part (tb : Tab) (t : Nat) (cs : List V) (off : Nat) : Option V :=
  match tb.isAgg t with
  | some true => match tb.size t with
    | some n => (cut cs off n).map .agg
    | none => none
  | some false => cs[off]?
  | none => none
def leafV : V → Bool
  | .agg _ | .tup _ => false
  | _ => true
def cellsOf : V → Option (List V)
  | .agg cs => cond (cs.all leafV) (some cs) none
  | .tup _ => none
  | v => some [v]
def zeroOf (tb : Tab) (t : Nat) : Option V :=
  match tb.inf t with
  | some i => match i.zero with
    | some z => abs z
    | none => none
  | none => none
def zerosOf (tb : Tab) (t : Nat) : Option (List V) := (zeroOf tb t).bind cellsOf
def rep (z : List V) : Nat → List V
  | 0 => []
  | n + 1 => z ++ rep z n
def load (tb : Tab) (h : H) (t n off : Nat) : Option V :=
  match h.get n with
  | some (.cells c _ _ _) => part tb t c off
  | _ => none
def loadG (tb : Tab) (h : H) (t n off : Nat) : Option V :=
  match h.get n with
  | some (.cells c _ _ _) => part tb t c off
  | some _ => none
  | none => match tb.glob n with
    | some c => part tb t c off
    | none => none
def sliceBnd (v : Option V) (dflt top : Nat) : Option Nat :=
  match v with
  | none => some dflt
  | some (.int _ (.ofNat i)) => cond (Nat.ble i top) (some i) none
  | _ => none
def bytesLess : List UInt8 → List UInt8 → Bool
  | _, [] => false
  | [], _ :: _ => true
  | a :: x, b :: y => Nat.blt a.toNat b.toNat || (Nat.beq a.toNat b.toNat && bytesLess x y)
def strOp (op : BinOp) (a b : List UInt8) : Option V :=
  match op with
  | .add => cond (Nat.ble (a.length + b.length) 1000000) (some (.str (a ++ b))) none
  | .eql => some (.bool (bytesEq a b))
  | .neq => some (.bool (!bytesEq a b))
  | .lss => some (.bool (bytesLess a b))
  | .leq => some (.bool (bytesLess a b || bytesEq a b))
  | .gtr => some (.bool (!(bytesLess a b || bytesEq a b)))
  | .geq => some (.bool (!bytesLess a b))
  | _ => none
def intOp (op : BinOp) (k : IntKind) (a b : Int) : Option V :=
  match op with
  | .add => some (.int k (k.wrap (a + b)))
  | .sub => some (.int k (k.wrap (a - b)))
  | .mul => some (.int k (k.wrap (a * b)))
  | .quo => cond (intEq b 0) none (some (.int k (k.wrap (a.tdiv b))))
  | .rem => cond (intEq b 0) none (some (.int k (a.tmod b)))
  | .eql => some (.bool (a == b))
  | .neq => some (.bool (a != b))
  | .lss => some (.bool (decide (a < b)))
  | .leq => some (.bool (decide (a ≤ b)))
  | .gtr => some (.bool (decide (a > b)))
  | .geq => some (.bool (decide (a ≥ b)))
  | .and => some (.int k (k.wrap (BitVec.ofInt k.bits a &&& BitVec.ofInt k.bits b).toNat))
  | .or => some (.int k (k.wrap (BitVec.ofInt k.bits a ||| BitVec.ofInt k.bits b).toNat))
  | .xor => some (.int k (k.wrap (BitVec.ofInt k.bits a ^^^ BitVec.ofInt k.bits b).toNat))
  | .andNot => some (.int k (k.wrap (BitVec.ofInt k.bits a &&& ~~~BitVec.ofInt k.bits b).toNat))
  | _ => none
def shiftOp (op : BinOp) (k : IntKind) (a b : Int) : Option V :=
  match op, b with
  | .shl, .ofNat n => some (.int k (k.wrap (a * 2 ^ (min n k.bits))))
  | .shr, .ofNat n => some (.int k (a.fdiv (2 ^ (min n k.bits))))
  | _, _ => none
def eqFields (tb : Tab) (eq : Nat → V → V → Option Bool) (xs ys : List V) : List Field → Option Bool
  | [] => some true
  | f :: fs =>
    if f.name = "_" then eqFields tb eq xs ys fs else
    match part tb f.type xs f.offset with
    | none => none
    | some a => match part tb f.type ys f.offset with
      | none => none
      | some b => match eq f.type a b with
        | some true => eqFields tb eq xs ys fs
        | r => r
def eqElems (tb : Tab) (eq : Nat → V → V → Option Bool) (e sz : Nat) (xs ys : List V) : Nat → Nat → Option Bool
  | 0, _ => some true
  | n + 1, i =>
    match part tb e xs (i * sz) with
    | none => none
    | some a => match part tb e ys (i * sz) with
      | none => none
      | some b => match eq e a b with
        | some true => eqElems tb eq e sz xs ys n (i + 1)
        | r => r
def eqAt (tb : Tab) : Nat → Nat → V → V → Option Bool
  | 0, _, _, _ => none
  | d + 1, t, x, y =>
    match tb.und t with
    | some .bool => match x, y with
      | .bool a, .bool b => some (a == b)
      | _, _ => none
    | some (.int _) => match x, y with
      | .int j a, .int k b => cond (kindEq j k) (some (a == b)) none
      | x, y => tb.eqi x y
    | some .string => match x, y with
      | .str a, .str b => some (bytesEq a b)
      | x, y => tb.eqs x y
    | some (.pointer e) => match x, y with
      | .nilp, .nilp => some true
      | .nilp, .ptr _ _ => some false
      | .ptr _ _, .nilp => some false
      | .ptr n o, .ptr m p => cond (Nat.beq n m && Nat.beq o p) ((tb.inf e).map fun _ => true) none
      | _, _ => none
    | some (.interface _) => match x, y with
      | .nili, .nili => some true
      | .nili, .iface _ _ => some false
      | .iface _ _, .nili => some false
      | _, _ => none
    | some (.slice _) => match x, y with
      | .nils, .nils => some true
      | .nils, .slice .. => some false
      | .slice .., .nils => some false
      | _, _ => none
    | some (.map _ _) => match x, y with
      | .nilm, .nilm => some true
      | .nilm, .map _ => some false
      | .map _, .nilm => some false
      | _, _ => none
    | some (.func _ _ _) => match x, y with
      | .nilf, .nilf => some true
      | .nilf, .fn _ _ _ => some false
      | .fn _ _ _, .nilf => some false
      | _, _ => none
    | some (.struct fs) => match x, y with
      | .agg xs, .agg ys => cond (tb.held t) none (eqFields tb (eqAt tb d) xs ys fs.toList)
      | _, _ => none
    | some (.array n e) => match x, y with
      | .agg xs, .agg ys => match tb.size e with
        | some sz => eqElems tb (eqAt tb d) e sz xs ys n 0
        | none => none
      | _, _ => none
    | _ => none
def guardOk (tb : Tab) (t : Nat) (x y : V) (lit : Bool) : Bool :=
  match x, y with
  | .nili, .nili => lit
  | .agg _, .agg _ => !tb.guard t
  | .sym _, _ => false
  | _, .sym _ => false
  | _, _ => true
def eqOp (tb : Tab) (op : BinOp) (t : Nat) (x y : V) (lit : Bool) : Option V :=
  match op with
  | .eql => cond (guardOk tb t x y lit) ((eqAt tb 50 t x y).map .bool) none
  | .neq => cond (guardOk tb t x y lit) ((eqAt tb 50 t x y).map fun b => .bool (!b)) none
  | _ => none
def intBin (op : BinOp) (j k : IntKind) (a b : Int) : Option V :=
  match op with
  | .shl | .shr => shiftOp op j a b
  | _ => cond (kindEq j k) (intOp op j a b) none
def binOp (tb : Tab) (op : BinOp) (t : Nat) (x y : V) (lit : Bool) : Option V :=
  match x with
  | .int j a => match y with
    | .int k b => intBin op j k a b
    | y => tb.bin op (.int j a) y
  | .str a => match y with
    | .str b => strOp op a b
    | y => tb.bin op (.str a) y
  | .sym i => tb.bin op (.sym i) y
  | x => eqOp tb op t x y lit
def unOp (op : UnOp) (x : V) : Option V :=
  match op, x with
  | .neg, .int k n => some (.int k (k.wrap (0 - n)))
  | .xor, .int k n => some (.int k (k.wrap (BitVec.ofInt k.bits (if k.signed then -1 else k.max) ^^^ BitVec.ofInt k.bits n).toNat))
  | .not, .bool b => some (.bool (!b))
  | _, _ => none
def convert (tb : Tab) (src dst : Nat) (x : V) : Option V :=
  match tb.und src with
  | none => none
  | some _ => match tb.und dst, x with
    | some (.int k), .int _ n => some (.int k (k.wrap n))
    | some .string, .str s => some (.str s)
    | _, .sym i => tb.conv src dst (.sym i)
    | _, _ => none
def index (tb : Tab) (t : Nat) (x i : V) : Option V :=
  match i with
  | .int _ (.ofNat i) => match tb.und t, x with
    | some (.array n e), .agg cs => cond (Nat.blt i n) ((tb.size e).bind fun sz => part tb e cs (i * sz)) none
    | some .string, .str s => match s[i]? with
      | some b => some (.int .u8 (Int.ofNat b.toNat))
      | none => none
    | _, _ => none
  | _ => none
def indexAddr (tb : Tab) (t : Nat) (x i : V) : Option V :=
  match i with
  | .int _ (.ofNat i) => match tb.und t, x with
    | some (.array n e), .ptr a off => cond (Nat.blt i n) ((tb.size e).bind fun sz => some (.ptr a (off + i * sz))) none
    | some (.slice e), .slice a off len _ => cond (Nat.blt i len) ((tb.size e).bind fun sz => some (.ptr a (off + i * sz))) none
    | _, _ => none
  | _ => none
def fieldAddr (tb : Tab) (t : Nat) (x : V) (f : Nat) : Option V :=
  match tb.und t, x with
  | some (.struct fs), .ptr a off => match fs[f]? with
    | some f => match tb.size f.type with
      | some (_ + 1) => some (.ptr a (off + f.offset))
      | _ => none
    | none => none
  | _, _ => none
def field (tb : Tab) (t : Nat) (x : V) (f : Nat) : Option V :=
  match tb.und t, x with
  | some (.struct fs), .agg cs => match fs[f]? with
    | some f => part tb f.type cs f.offset
    | none => none
  | _, _ => none
def reslice (n off len cap sz : Nat) (lo hi mx : Option V) (fits : Bool) : Option V :=
  let c := cap / 2
  match mx with
  | some _ =>
    match sliceBnd mx c c with
    | none => none
    | some m => match hi with
      | none => none
      | some _ => match sliceBnd hi m m with
        | none => none
        | some h => match sliceBnd lo 0 h with
          | none => none
          | some l => some (.slice n (cond (Nat.beq m l) off (off + l * sz)) (h - l) (2 * (m - l)))
  | none =>
    match sliceBnd hi len c with
    | none => none
    | some h => match sliceBnd lo 0 h with
      | none => none
      | some l =>
        cond (Nat.beq (cap % 2) 0) (some (.slice n (cond (Nat.beq c l) off (off + l * sz)) (h - l) (2 * (c - l))))
          (cond (Nat.beq l 0 || (Nat.blt l c && fits)) (some (.slice n (off + l * sz) (h - l) (2 * (c - l) + 1))) none)
def fitsAt (h : H) (n sz : Nat) : Bool :=
  match h.get n with
  | some (.cells _ _ u _) => Nat.beq u sz
  | _ => false
def slice (tb : Tab) (g : H) (t : Nat) (x : V) (lo hi mx : Option V) : Option V :=
  match tb.und t, x with
  | some .string, .str s =>
    match mx with
    | some _ => none
    | none => match sliceBnd hi s.length s.length with
      | none => none
      | some h => match sliceBnd lo 0 h with
        | none => none
        | some l => some (.str ((s.take h).drop l))
  | some (.array n e), .ptr a off => (tb.size e).bind fun sz => reslice a off n (2 * n) sz lo hi mx false
  | some (.slice e), .slice a off len cap => (tb.size e).bind fun sz => reslice a off len cap sz lo hi mx (fitsAt g a sz)
  | some (.slice e), .nils => match tb.size e, mx with
    | some _, none => match sliceBnd hi 0 0 with
      | none => none
      | some _ => match sliceBnd lo 0 0 with
        | none => none
        | some _ => some .nils
    | _, _ => none
  | some (.pointer arr), .ptr a off => match tb.und arr with
    | some (.array n e) => (tb.size e).bind fun sz => reslice a off n (2 * n) sz lo hi mx false
    | _ => none
  | _, _ => none
def fill (place : Nat → Option (Nat × Nat)) (cells : List V) : List (Nat × V) → Option (List V)
  | [] => some cells
  | (i, v) :: rest =>
    match place i with
    | none => none
    | some (off, size) => match cellsOf v with
      | none => none
      | some vs => cond (Nat.beq vs.length size) (match putAt off cells vs with | none => none | some c => fill place c rest) none
def places (tb : Tab) : List Field → Option (List (Nat × Nat))
  | [] => some []
  | f :: fs => match tb.size f.type with
    | none => none
    | some n => match places tb fs with
      | none => none
      | some r => some ((f.offset, n) :: r)
def evParts (t : T V) : List (Nat × Operand) → Option (List (Nat × V))
  | [] => some []
  | (i, x) :: xs => match ev t x with
    | none => none
    | some v => match evParts t xs with
      | none => none
      | some vs => some ((i, v) :: vs)
def build (tb : Tab) (t : Nat) (ps : List (Nat × V)) : Option V :=
  match zerosOf tb t with
  | none => none
  | some z => match tb.und t with
    | some (.struct fs) => match places tb fs.toList with
      | none => none
      | some pl => (fill (pl[·]?) z ps).map .agg
    | some (.array _ e) => match tb.size e with
      | none => none
      | some sz => (fill (fun i => some (i * sz, sz)) z ps).map .agg
    | _ => none
def scanE (tb : Tab) (key : Nat) (k : V) : List (V × V) → Option (List V)
  | [] => some []
  | e :: es => match eqAt tb 50 key k e.1 with
    | none => none
    | some b => match scanE tb key k es with
      | none => none
      | some r => some (cond b (e.2 :: r) r)
def keyLessL : List V → List V → Bool
  | .int _ a :: x, .int _ b :: y => decide (a < b) || (intEq a b && keyLessL x y)
  | _, _ => false
def keyLess : V → V → Bool
  | .int _ a, .int _ b => decide (a < b)
  | .str a, .str b => bytesLess a b
  | .agg x, .agg y => keyLessL x y
  | _, _ => false
def insE (k v : V) : List (V × V) → List (V × V)
  | [] => [(k, v)]
  | (a, b) :: es => cond (keyLess k a) ((k, v) :: (a, b) :: es) ((a, b) :: insE k v es)
def replE (tb : Tab) (key : Nat) (k v : V) : List (V × V) → Option (List (V × V))
  | [] => none
  | e :: es => match eqAt tb 50 key k e.1 with
    | none => none
    | some true => cond (V.eq k e.1) (some ((k, v) :: es)) none
    | some false => (replE tb key k v es).map (e :: ·)
def storeE (tb : Tab) (key : Nat) (k v : V) (es : List (V × V)) : Option (List (V × V)) :=
  match scanE tb key k es with
  | some [] => some (insE k v es)
  | some [_] => replE tb key k v es
  | _ => none
def Tab.leafKey (tb : Tab) : V → Bool
  | .int _ _ | .str _ | .bool _ => true
  | .sym i => tb.keyS i
  | _ => false
def plainD : TypeDesc → Bool
  | .int _ | .string | .bool => true
  | _ => false
def plainField (tb : Tab) (n : Nat) (f : Field) : Bool :=
  match tb.und f.type with
  | some d => plainD d && Nat.blt f.offset n
  | none => false
def keyOk (tb : Tab) (t : Nat) (v : V) : Bool :=
  match tb.und t, v with
  | some (.struct fs), .agg cs => fs.toList.all (plainField tb cs.length) && cs.all tb.leafKey
  | some (.array n e), .agg cs => match tb.und e, tb.size e with
    | some d, some 1 => plainD d && Nat.ble n cs.length && cs.all tb.leafKey
    | _, _ => false
  | some (.int _), v => tb.leafKey v
  | some .string, v => tb.leafKey v
  | some .bool, v => tb.leafKey v
  | _, _ => false
def lookup (tb : Tab) (h : H) (ty : Nat) (m k : V) (ok : Bool) : Option V :=
  match tb.und ty with
  | some (.map key el) => cond (keyOk tb key k) (
      match (match m with | .nilm => some [] | .map n => (match h.get n with | some (.map es _) => some es | _ => none) | _ => none) with
      | none => none
      | some es => match scanE tb key k es with
        | some [v] => some (cond ok (.tup [v, .bool true]) v)
        | some [] => (zeroOf tb el).map fun z => cond ok (.tup [z, .bool false]) z
        | _ => none) none
  | _ => none
def entry (h : H) (x : V) : Option V :=
  match x with
  | .ptr r 0 => match h.get r with
    | some (.iter m _ (some e)) => match h.get m with
      | some (.map _ (some k)) => cond (Nat.beq k r) (some (.tup [e.1, e.2])) none
      | _ => none
    | _ => none
  | _ => none
def lenAt (tb : Tab) (h : H) (ty : Nat) (x : V) : Option V :=
  match tb.und ty, x with
  | some .string, .str s => some (.int .i64 (Int.ofNat s.length))
  | some (.array n _), _ => some (.int .i64 (Int.ofNat n))
  | some (.slice _), .slice _ _ n _ => some (.int .i64 (Int.ofNat n))
  | some (.slice _), .nils => some (.int .i64 (Int.ofNat 0))
  | some (.slice _), .sym i => (tb.lenS i).map fun n => .int .i64 (Int.ofNat n)
  | some (.map _ _), .nilm => some (.int .i64 (Int.ofNat 0))
  | some (.map _ _), .map n => match h.get n with
    | some (.map es _) => some (.int .i64 (Int.ofNat es.length))
    | _ => none
  | _, _ => none
def capAt (tb : Tab) (ty : Nat) (x : V) : Option V :=
  match tb.und ty, x with
  | some (.array n _), _ => some (.int .i64 (Int.ofNat n))
  | some (.slice _), .slice _ _ _ c => cond (Nat.beq (c % 2) 0) (some (.int .i64 (Int.ofNat (c / 2)))) none
  | some (.slice _), .nils => some (.int .i64 (Int.ofNat 0))
  | _, _ => none
def maxOf (most : Bool) : List V → Option V
  | [.int k a, .int _ b] => some (.int k (cond most (if b > a then b else a) (if b < a then b else a)))
  | _ => none
def bytesOf : List V → Option (List UInt8)
  | [] => some []
  | .int .u8 b :: r => (bytesOf r).map (UInt8.ofNat b.toNat :: ·)
  | _ => none
def bytesAt (tb : Tab) (h : H) (s d n off len : Nat) : Option V :=
  match tb.und s, tb.und d with
  | some (.slice el), some .string => match tb.und el, h.get n with
    | some (.int .u8), some (.cells c _ _ _) => ((cut c off len).bind bytesOf).map .str
    | _, _ => none
  | _, _ => none
def cutSym (tb : Tab) (ty : Nat) (x : V) (lo hi mx : Option V) : Option V :=
  match x, lo, hi, mx with
  | .sym i, none, some (.int _ (.ofNat k)), none => cond (Nat.blt k 1000) (tb.cutS ty i k) none
  | .sym i, some (.int _ (.ofNat k)), none, none => tb.cutS ty i (1000 + k)
  | _, _, _, _ => none
def adrSym (tb : Tab) (ty : Nat) (x i : V) : Option V :=
  match x, i with
  | .sym s, .int _ (.ofNat k) => tb.adrS ty s k
  | _, _ => none
def quiet (tb : Tab) (op : Op) (_ty : Nat) (t : T V) (h : H) : Option V :=
  match op with
  | .move x | .assign x => ev t x
  | .pick c a b => match ev t c with
    | some (.bool true) => ev t a
    | some (.bool false) => ev t b
    | _ => none
  | .build ty ps => (evParts t ps.toList).bind (build tb ty)
  | .load ty a => match ev t a with
    | some (.ptr n off) => loadG tb h ty n off
    | some (.sym i) => tb.ldS ty i
    | _ => none
  | .nilCheck x => match ev t x with
    | some (.ptr n off) => some (.ptr n off)
    | some (.fn f a b) => some (.fn f a b)
    | some (.yld l) => some (.yld l)
    | some (.iface a b) => some (.iface a b)
    | _ => none
  | .binOp op ty x y _ => match ev t x with
    | none => none
    | some a => match ev t y with
      | none => none
      | some b => binOp tb op ty a b (Region.isConst x || Region.isConst y)
  | .unOp op _ x => (ev t x).bind (unOp op)
  | .convert s d x => match ev t x with
    | none => none
    | some (.slice n off len _) => bytesAt tb h s d n off len
    | some v => convert tb s d v
  | .makeInterface ty x => match tb.und ty with
    | none => none
    | some (.interface _) => none
    | some _ => (ev t x).map (.iface ty)
  | .makeFunc (.func f) a b => match evL t a.toList with
    | none => none
    | some as => match evL t b.toList with
      | none => none
      | some bs => some (.fn f as bs)
  | .slice ty x lo hi mx => match ev t x with
    | none => none
    | some v => match evO t lo with
      | none => none
      | some lo => match evO t hi with
        | none => none
        | some hi => match evO t mx with
          | none => none
          | some mx => match slice tb h ty v lo hi mx with
            | some r => some r
            | none => cutSym tb ty v lo hi mx
  | .fieldAddr ty x f => (ev t x).bind fun v => fieldAddr tb ty v f
  | .field ty x f => (ev t x).bind fun v => field tb ty v f
  | .indexAddr ty x i => match ev t x with
    | none => none
    | some a => match ev t i with
      | none => none
      | some b => match indexAddr tb ty a b with
        | some r => some r
        | none => adrSym tb ty a b
  | .index ty x i => match ev t x with
    | none => none
    | some a => match ev t i with
      | none => none
      | some b => index tb ty a b
  | .extract x i => match ev t x with
    | some (.tup vs) => vs[i]?
    | _ => none
  | .lookup ty x k ok => match ev t x with
    | none => none
    | some m => match ev t k with
      | none => none
      | some k => lookup tb h ty m k ok
  | .entry x => (ev t x).bind (entry h)
  | .call { callee := .builtin .len, args, argTypes } => match argTypes[0]?, args[0]? with
    | some ty, some x => (ev t x).bind (lenAt tb h ty)
    | _, _ => none
  | .call { callee := .builtin .cap, args, argTypes } => match argTypes[0]?, args[0]? with
    | some ty, some x => (ev t x).bind (capAt tb ty)
    | _, _ => none
  | .call { callee := .builtin .max, args, .. } => (evL t args.toList).bind (maxOf true)
  | .call { callee := .builtin .min, args, .. } => (evL t args.toList).bind (maxOf false)
  | _ => none
def makes (tb : Tab) (op : Op) (t : T V) : Option (O × (Nat → V)) :=
  match op with
  | .alloc el => (zerosOf tb el).map fun z => (.cells z el 0 false, fun n => .ptr n 0)
  | .box el x => match ev t x with
    | none => none
    | some v => (cellsOf v).map fun z => (.cells z el 0 false, fun n => .ptr n 0)
  | .buildSlice ty len ps => match tb.und ty with
    | some (.slice el) => match tb.size el with
      | none => none
      | some sz => match zerosOf tb el with
        | none => none
        | some z => match evParts t ps.toList with
          | none => none
          | some ps => cond (Nat.beq z.length sz && Nat.ble (len * sz) 10000) (
              (fill (fun i => some (i * sz, sz)) (rep z len) ps).map fun c => (.cells c el 0 false, fun n => .slice n 0 len (2 * len))) none
    | _ => none
  | .makeSlice ty l c => match tb.und ty, ev t l, ev t c with
    | some (.slice el), some (.int _ (.ofNat l)), some (.int _ (.ofNat c)) => match tb.inf el with
      | none => none
      | some inf => match zerosOf tb el with
        | none => none
        | some z => cond (Nat.beq z.length inf.size && Nat.ble l c && Nat.ble c 10000 && Nat.ble inf.bytes 1000000) (some (.cells (rep z c) el 0 false, fun n => .slice n 0 l (2 * c))) none
    | _, _, _ => none
  | .convert src dst x => match tb.und src, tb.und dst, ev t x with
    | some _, some (.slice el), some (.str s) => match tb.und el with
      | some (.int .u8) => some (.cells (s.map fun b => .int .u8 (Int.ofNat b.toNat)) el 1 true, fun n => .slice n 0 s.length (2 * s.length + 1))
      | _ => none
    | _, _, _ => none
  | .makeMap _ none => some (.map [] none, fun n => .map n)
  | .makeMap ty (some r) => match tb.und ty, ev t r with
    | some (.map _ _), some (.int _ _) => some (.map [] none, fun n => .map n)
    | _, _ => none
  | _ => none
end
end Ev
namespace Ev
open Go
noncomputable section
abbrev R3 := V × H × Nat
structure Rec where
  call : Nat → List V → H → Nat → Option R3
  round : Nat → List V → H → Nat → Option R3
inductive Ext where
  | noEscape | indexByte | cmp | count
def extOf (f : Func) : Option Ext :=
  if f.name = "internal/abi.NoEscape" then some .noEscape
  else if f.name = "internal/bytealg.IndexByteString" then some .indexByte
  else if f.name = "internal/bytealg.abigen_runtime_cmpstring" then some .cmp
  else if f.name = "internal/bytealg.CountString" then some .count
  else none
def idxB (c : Nat) : List UInt8 → Nat → Int
  | [], _ => -1
  | x :: xs, i => cond (Nat.beq x.toNat c) (Int.ofNat i) (idxB c xs (i + 1))
def cmpB : List UInt8 → List UInt8 → Int
  | [], [] => 0
  | [], _ :: _ => -1
  | _ :: _, [] => 1
  | a :: x, b :: y => cond (Nat.beq a.toNat b.toNat) (cmpB x y) (cond (Nat.blt a.toNat b.toNat) (-1) 1)
def cntB (c : Nat) : List UInt8 → Nat
  | [] => 0
  | x :: xs => cond (Nat.beq x.toNat c) (cntB c xs + 1) (cntB c xs)
def runExt : Ext → List V → Option V
  | .noEscape, [x] => some x
  | .indexByte, [.str s, .int .u8 (.ofNat c)] => cond (Nat.blt c 256) (some (.int .i64 (idxB c s 0))) none
  | .cmp, [.str a, .str b] => some (.int .i64 (cmpB a b))
  | .count, [.str s, .int .u8 (.ofNat c)] => cond (Nat.blt c 256) (some (.int .i64 (Int.ofNat (cntB c s)))) none
  | _, _ => none
mutual
def namesV : V → List Nat
  | .ptr n _ => [n]
  | .slice n _ _ _ => [n]
  | .map n => [n]
  | .fn _ a b => namesL a ++ namesL b
  | .iface _ v => namesV v
  | .agg cs => namesL cs
  | .tup cs => namesL cs
  | _ => []
def namesL : List V → List Nat
  | [] => []
  | v :: vs => namesV v ++ namesL vs
end
def namesO : O → List Nat
  | .cells c _ _ _ => namesL c
  | .map es _ => namesL (es.map (·.1)) ++ namesL (es.map (·.2))
  | _ => []
def reach (h : H) : Nat → List Nat → H → H
  | 0, _, sub => sub
  | _ + 1, [], sub => sub
  | k + 1, n :: ns, sub => match sub.get n with
    | some _ => reach h k ns sub
    | none => match h.get n with
      | none => reach h k ns sub
      | some o => reach h k (namesO o ++ ns) (sub.set n o)
def over.minus {α : Type} : T α → T α → T α
  | h, .e => h
  | .e, _ => .e
  | .n a v b, .n c w d => .n (over.minus a c) (match w with | some _ => none | none => v) (over.minus b d)
def over {α : Type} : T α → T α → T α → T α
  | h, sub, .e => over.minus h sub
  | h, sub, .n a v b => .n (over h.left sub.left a) (match v with | some x => some x | none => (match sub.val with | some _ => none | none => h.val)) (over h.right sub.right b)
def optEq {α : Type} (f : α → α → Bool) : Option α → Option α → Bool
  | none, none => true
  | some x, some y => f x y
  | _, _ => false
def T.isE {α : Type} : T α → Bool | .e => true | _ => false
noncomputable def T.eqBy {α : Type} (f : α → α → Bool) (a : T α) : T α → Bool :=
  T.rec (motive := fun _ => T α → Bool) T.isE (fun _ v _ ia ib b => T.rec (motive := fun _ => Bool) false (fun c w d _ _ => optEq f v w && ia c && ib d) b) a
theorem T.eqBy_n {α : Type} (f : α → α → Bool) (a b c d : T α) (v w : Option α) : T.eqBy f (.n a v b) (.n c w d) = (optEq f v w && T.eqBy f a c && T.eqBy f b d) := rfl
def Lft.eq (a b : Lft) : Bool := V.eqL (a.must.map (·.1)) (b.must.map (·.1)) && V.eqL (a.must.map (·.2)) (b.must.map (·.2)) && V.eqL (a.may.map (·.1)) (b.may.map (·.1)) && V.eqL (a.may.map (·.2)) (b.may.map (·.2)) && Nat.beq a.k b.k
def revIn (es : List (V × V)) (e : V × V) : Bool :=
  match e.1 with
  | .agg [.int _ a, .int _ b] => es.any fun p => match p.1 with
    | .agg [.int _ c, .int _ d] => intEq a d && intEq b c
    | _ => false
  | _ => false
def Lft.of (es : List (V × V)) : Lft := ⟨es.filter fun e => !revIn es e, es.filter (revIn es), (es.filter (revIn es)).length⟩
def O.eq : O → O → Bool
  | .cells a b c d, .cells e f g h => V.eqL a e && Nat.beq b f && Nat.beq c g && d == h
  | .map a k, .map b l => (match k, l with | none, none => true | some k, some l => Nat.beq k l | _, _ => false) && V.eqL (a.map (·.1)) (b.map (·.1)) && V.eqL (a.map (·.2)) (b.map (·.2))
  | .iter m b x, .iter n d y => (match x, y with | none, none => true | some x, some y => V.eq x.1 y.1 && V.eq x.2 y.2 | _, _ => false) && Nat.beq m n && Lft.eq b d
  | .defer a, .defer b => a == b
  | _, _ => false
mutual
def renV (r : Nat → Nat) : V → V
  | .ptr n o => .ptr (r n) o
  | .slice n o l c => .slice (r n) o l c
  | .map n => .map (r n)
  | .fn f a b => .fn f (renL r a) (renL r b)
  | .yld l => .yld (r l)
  | .iface t v => .iface t (renV r v)
  | .agg cs => .agg (renL r cs)
  | .tup cs => .tup (renL r cs)
  | v => v
def renL (r : Nat → Nat) : List V → List V
  | [] => []
  | v :: vs => renV r v :: renL r vs
end
def renE (r : Nat → Nat) : List (V × V) → List (V × V)
  | [] => []
  | e :: es => (renV r e.1, renV r e.2) :: renE r es
def renO (r : Nat → Nat) : O → Option O
  | .cells c e u f => some (.cells (renL r c) e u f)
  | .map es none => some (.map (renE r es) none)
  | _ => none
def natMem (n : Nat) : List Nat → Bool
  | [] => false
  | m :: ms => cond (Nat.beq n m) true (natMem n ms)
def nodupB : List Nat → Bool
  | [] => true
  | m :: ms => cond (natMem m ms) false (nodupB ms)
def orderOf (h : H) : Nat → List Nat → List Nat → List Nat
  | 0, _, acc => acc.reverse
  | _ + 1, [], acc => acc.reverse
  | k + 1, n :: ns, acc => cond (natMem n acc) (orderOf h k ns acc) (match h.get n with
    | none => orderOf h k ns acc
    | some o => orderOf h k (namesO o ++ ns) (n :: acc))
def invN (ord : List Nat) (k nx n : Nat) : Nat := cond (Nat.blt n 64) n (cond (Nat.blt n (64 + k)) ((ord[n - 64]?).getD 0) (nx + (n - (64 + k))))
def matchSub (r : Nat → Nat) (h : H) : List O → List Nat → Bool
  | [], [] => true
  | o :: os, n :: ns => (match renO r o with
    | some o' => (match h.get n with | some x => O.eq o' x | none => false)
    | none => false) && matchSub r h os ns
  | _, _ => false
def putOut (r : Nat → Nat) : List (Nat × O) → H → Option H
  | [], h => some h
  | p :: rest, h => match renO r p.2 with
    | none => none
    | some o' => match putOut r rest h with
      | none => none
      | some h' => some (h'.set (r p.1) o')
def delAll : List Nat → H → H
  | [], h => h
  | n :: ns, h => (delAll ns h).del n
def useRm (ord : List Nat) (args : List V) (h : H) (nx : Nat) : List RM → Option R3
  | [] => none
  | e :: es => cond (V.eqL (renL (invN ord ord.length nx) e.args) args && matchSub (invN ord ord.length nx) h e.sub ord)
      (match putOut (invN ord ord.length nx) e.out (delAll ord h) with
        | none => none
        | some h' => some (renV (invN ord ord.length nx) e.v, h', nx + e.made))
      (useRm ord args h nx es)
def callKept (es : List RM) (args : List V) (h : H) (nx : Nat) : Option R3 :=
  cond (nodupB (orderOf h 1000 (namesL args) [])) (useRm (orderOf h 1000 (namesL args) []) args h nx es) none
def callD (tb : Tab) (rc : Rec) (f : Nat) (args : List V) (h : H) (nx : Nat) : Option R3 :=
  cond (tb.focus f) (
    let sub := reach h 1000 (namesL args) .e
    match rc.call f args sub nx with
    | none => none
    | some (v, h', nx') => some (v, over h sub h', nx')) (rc.call f args h nx)
def callB (tb : Tab) (rc : Rec) (f : Nat) (args : List V) (h : H) (nx : Nat) : Option R3 :=
  match tb.prim f args with
  | some v => some (v, h, nx)
  | none => match tb.rm f with
    | none => callD tb rc f args h nx
    | some es => match callKept es args h nx with
      | some r => some r
      | none => callD tb rc f args h nx
def callFn (tb : Tab) (rc : Rec) (f : Nat) (args : List V) (h : H) (nx : Nat) : Option R3 :=
  match tb.fn f with
  | none => none
  | some fn => match fn.body with
    | some _ => callB tb rc f args h nx
    | none => match extOf fn with
      | none => none
      | some x => (runExt x args).map fun v => (v, h, nx)
def srcCells (tb : Tab) (h : H) (sz : Nat) : V → Nat → Option (List V)
  | .slice n off _ _, k => match h.get n with
    | some (.cells c _ _ _) => cut c off (k * sz)
    | some _ => none
    | none => match tb.glob n with
      | some c => cut c off (k * sz)
      | none => none
  | .nils, _ => some []
  | .str s, k => some ((s.take k).map fun b => .int .u8 (Int.ofNat b.toNat))
  | _, _ => none
def lenOf : V → Option Nat
  | .slice _ _ n _ => some n
  | .nils => some 0
  | .str s => some s.length
  | _ => none
def newCells (tb : Tab) (el sz : Nat) (xd : TypeDesc) (x : V) (h : H) : Option (Nat × List V) :=
  match xd with
  | .int _ => match x with
    | .int _ (.ofNat k) => cond (Nat.ble k 100000) (match zerosOf tb el with
      | none => none
      | some z => cond (Nat.beq z.length sz) (some (k, rep z k)) none) none
    | _ => none
  | _ => match lenOf x with
    | none => none
    | some k => (srcCells tb h sz x k).map fun c => (k, c)
def grown (el sz nx k : Nat) (cs : List V) (h : H) : R3 := (.slice nx 0 k (2 * k + 1), h.set nx (.cells cs el sz false), nx + 1)
def append (tb : Tab) (ty xty : Nat) (s x : V) (h : H) (nx : Nat) : Option R3 :=
  match tb.und ty with
  | some (.slice el) => match tb.und xty with
    | none => none
    | some xd => match tb.inf el with
      | none => none
      | some inf => match zerosOf tb el with
        | none => none
        | some z => match newCells tb el inf.size xd x h with
          | none => none
          | some (k, new) => cond (Nat.ble k 100000 && Nat.ble inf.bytes 100000 && Nat.ble 1 inf.size && Nat.beq z.length inf.size && new.all leafV && Nat.beq new.length (k * inf.size)) (
            match s with
            | .nils => cond (Nat.beq k 0) (some (.nils, h, nx)) (some (grown el inf.size nx k new h))
            | .slice n off len cap => match h.get n with
              | some (.cells c e u false) => cond (Nat.ble len 100000 && Nat.ble (cap / 2) 100000) (
                cond (Nat.ble (len + k) (cap / 2)) (
                  match putAt (off + len * inf.size) c new with
                    | none => none
                    | some c => some (.slice n off (len + k) cap, h.set n (.cells c e u false), nx))
                (match cut c off (len * inf.size) with
                  | none => none
                  | some old => cond (Nat.beq (cap % 2) 0) (some (grown el inf.size nx (len + k) (old ++ new) h))
                    (cond (Nat.beq off 0 && Nat.beq u inf.size && Nat.beq e el) (some (grown el inf.size nx (len + k) (old ++ new) (h.del n))) none))) none
              | some (.cells c _ _ true) => cond (Nat.ble len 100000 && Nat.ble (cap / 2) 100000 && Nat.beq (cap % 2) 0 && Nat.blt (cap / 2) (len + k)) (
                match cut c off (len * inf.size) with
                | none => none
                | some old => some (grown el inf.size nx (len + k) (old ++ new) h)) none
              | none => cond (Nat.ble len 100000 && Nat.ble (cap / 2) 100000 && Nat.beq (cap % 2) 0 && Nat.blt (cap / 2) (len + k)) (
                match tb.glob n with
                | none => none
                | some c => match cut c off (len * inf.size) with
                  | none => none
                  | some old => some (grown el inf.size nx (len + k) (old ++ new) h)) none
              | _ => none
            | _ => none) none
  | _ => none
def eff (tb : Tab) (rc : Rec) (op : Op) (_ty : Nat) (t : T V) (h : H) (nx : Nat) : Option R3 :=
  match op with
  | .store ty a x => match ev t a, ev t x with
    | some (.ptr n off), some v => match h.get n, cellsOf v, tb.size ty with
      | some (.cells c e u false), some vs, some sz => cond (Nat.beq vs.length sz) (match putAt off c vs with
        | none => none
        | some c => some (undefV, h.set n (.cells c e u false), nx)) none
      | _, _, _ => none
    | _, _ => none
  | .mapUpdate ty m k v | .insert ty m k v => match tb.und ty, ev t m, ev t k, ev t v with
    | some (.map key _), some (.map n), some k, some v => match h.get n with
      | some (.map es none) => cond (keyOk tb key k) ((storeE tb key k v es).map fun es => (undefV, h.set n (.map es none), nx)) none
      | _ => none
    | _, _, _, _ => none
  | .range ty x => match tb.und ty, ev t x with
    | some (.map _ _), some (.map n) => match h.get n with
      | some (.map es _) => some (.ptr nx 0, (h.set n (.map es (some nx))).set nx (.iter n (Lft.of es) none), nx + 1)
      | _ => none
    | _, _ => none
  | .call { callee := .value f, args, .. } => match ev t f, evL t args.toList with
    | some (.fn g first cap), some args => callFn tb rc g (first ++ args ++ cap) h nx
    | some (.yld l), some args => rc.round l args h nx
    | _, _ => none
  | .call { callee := .builtin .append, args, argTypes } => match args[0]?, args[1]?, argTypes[0]?, argTypes[1]? with
    | some s, some x, some ty, some xty => match ev t s, ev t x with
      | some s, some x => append tb ty xty s x h nx
      | _, _ => none
    | _, _, _, _ => none
  | .call { callee := .builtin .copy, args, argTypes } => match args[0]?, args[1]?, argTypes[0]? with
    | some s, some x, some ty => match tb.und ty, ev t s, ev t x with
      | some (.slice el), some s, some x => match tb.size el, lenOf s, lenOf x with
        | some sz, some a, some b => match srcCells tb h sz x (min b a) with
          | none => none
          | some new => cond (new.all leafV) (match s with
            | .nils => some (.int .i64 (Int.ofNat (min b a)), h, nx)
            | .slice n off _ _ => match h.get n with
              | some (.cells c e u false) => (putAt off c new).map fun c => (.int .i64 (Int.ofNat (min b a)), h.set n (.cells c e u false), nx)
              | _ => none
            | _ => none) none
        | _, _, _ => none
      | _, _, _ => none
    | _, _, _ => none
  | .call { callee := .builtin .clear, args, argTypes } => match args[0]?, argTypes[0]? with
    | some x, some ty => match tb.und ty, ev t x with
      | some (.slice _), some .nils => some (undefV, h, nx)
      | some (.slice _), some (.slice _ _ 0 _) => some (undefV, h, nx)
      | some (.slice el), some (.slice n off (k + 1) _) => match h.get n, zerosOf tb el with
        | some (.cells c e u false), some z => cond (z.all leafV) ((putAt off c (rep z (k + 1))).map fun c => (undefV, h.set n (.cells c e u false), nx)) none
        | _, _ => none
      | _, _ => none
    | _, _ => none
  | .call { callee := .builtin .unsafeString, args, argTypes } => match evL t args.toList, (argTypes[0]?).bind tb.und with
    | some [.ptr n off, .int _ (.ofNat k)], some (.pointer el) => match h.get n with
      | some (.cells c e u _) => cond (Nat.beq e el && Nat.beq off 0 && Nat.blt 0 k && Nat.ble k 1000000) (match tb.size el with
        | some 1 => (match cut c 0 k with
          | none => none
          | some bs => match bytesOf bs with
            | none => none
            | some s => some (.str s, h.set n (.cells c e u true), nx))
        | _ => none) none
      | _ => none
    | some [.nilp, .int _ (.ofNat 0)], some (.pointer _) => some (.str [], h, nx)
    | _, _ => none
  | .call { callee := .builtin .unsafeSliceData, args, .. } => match evL t args.toList with
    | some [.nils] => some (.nilp, h, nx)
    | some [.slice n off _ c] => cond (Nat.ble 2 c) (some (.ptr n off, h, nx)) none
    | _ => none
  | .convert s d x => match tb.und s, tb.und d, ev t x with
    | some (.pointer el), some .unsafePointer, some (.ptr n off) => match h.get n, tb.size el with
      | some (.cells c _ _ _), some (_ + 1) => cond (Nat.blt off c.length) (some (.ptr n off, h, nx)) none
      | _, _ => none
    | some .unsafePointer, some (.pointer el), some (.ptr n off) => match h.get n, tb.size el with
      | some (.cells c e _ _), some (k + 1) => cond (Nat.beq off 0 && Nat.beq e el && Nat.ble (k + 1) c.length) (some (.ptr n off, h, nx)) none
      | _, _ => none
    | _, _, _ => none
  | _ => none
inductive Cls where
  | pure | read | make | chain
def cls (tb : Tab) : Op → Cls
  | .move _ | .assign _ | .pick .. | .build .. | .nilCheck _ | .binOp .. | .unOp .. | .makeInterface .. | .makeFunc .. | .fieldAddr .. | .field .. | .indexAddr .. | .index ..
  | .extract .. => .pure
  | .load .. | .lookup .. | .entry _ | .slice .. => .read
  | .convert s d _ => match tb.und s, tb.und d with
    | some .unsafePointer, _ | _, some .unsafePointer => .chain
    | _, some (.slice _) => .make
    | some (.slice _), _ => .read
    | _, _ => .pure
  | .alloc _ | .box .. | .buildSlice .. | .makeSlice .. | .makeMap .. => .make
  | .call { callee := .builtin .len, .. } | .call { callee := .builtin .cap, .. } => .read
  | .call { callee := .builtin .max, .. } | .call { callee := .builtin .min, .. } => .pure
  | _ => .chain
structure S where
  t : T V
  h : H
  nx : Nat
  m : List Nat
def setDst (t : T V) (d : Option Nat) (v : V) : T V :=
  match d with
  | none => t
  | some k => t.set k v
def wanted (ops : Array Oper) (o : Oper) (t : T V) : Option Bool :=
  match o.guard with
  | none => some true
  | some (j, want) => match (ops[j]?).bind (·.dst) with
    | none => none
    | some d => match t.get d with
      | some (.bool b) => some (b == want)
      | some (.tup _) => some false
      | _ => none
def without (es : List (V × V)) : List (V × V) → List ((V × V) × List (V × V))
  | [] => []
  | x :: rest => (x, es ++ rest) :: without (es ++ [x]) rest
def nextOp (it : Operand) (t : T V) (h : H) : Option (List (V × H)) :=
  match ev t it with
  | some (.ptr r 0) => match h.get r with
    | some (.iter m left _) => match h.get m with
      | some (.map _ (some k)) => cond (Nat.beq k r) (
        match left with
        | ⟨[], _, 0⟩ => some [(.tup [.bool false], h)]
        | ⟨es, mays, k⟩ => some (((without [] es).map fun (e, rest) => (.tup [.bool true, e.1, e.2], h.set r (.iter m ⟨rest, mays, k⟩ (some e)))) ++
          match k with
          | 0 => []
          | k + 1 => mays.map fun e => (.tup [.bool true, e.1, e.2], h.set r (.iter m ⟨es, mays, k⟩ (some e))))) none
      | _ => none
    | _ => none
  | _ => none
def stepOp (tb : Tab) (rc : Rec) (ops : Array Oper) (o : Oper) (s : S) : Option (List S) :=
  match wanted ops o s.t with
  | none => none
  | some false => some [{ s with t := setDst s.t o.dst undefV }]
  | some true =>
    match o.op with
    | .next it false => (nextOp it s.t s.h).map fun l => l.map fun (v, h) => { s with t := setDst s.t o.dst v, h := h }
    | _ => match cls tb o.op with
      | .pure | .read => (quiet tb o.op o.type s.t s.h).map fun v => [{ s with t := setDst s.t o.dst v }]
      | .make => (makes tb o.op s.t).map fun (x, mk) => [{ t := setDst s.t o.dst (mk s.nx), h := s.h.set s.nx x, nx := s.nx + 1, m := s.m }]
      | .chain => (eff tb rc o.op o.type s.t s.h s.nx).map fun (v, h, nx) => [{ t := setDst s.t o.dst v, h := h, nx := nx, m := s.m }]
def eachL {α β : Type} (f : α → Option (List β)) : List α → Option (List β)
  | [] => some []
  | x :: xs => match f x with
    | none => none
    | some ys => match xs with
      | [] => some ys
      | _ => match eachL f xs with
        | none => none
        | some zs => some (ys ++ zs)
def runOps (tb : Tab) (rc : Rec) (ops : Array Oper) : List Oper → S → Option (List S)
  | [], s => some [s]
  | o :: os, s => match stepOp tb rc ops o s with
    | none => none
    | some [s'] => runOps tb rc ops os s'
    | some l => eachL (runOps tb rc ops os) l
def befOf (acc : T Nat) : List Edge → Nat
  | [] => 0
  | e :: es => cond (Region.binds .any e) (Nat.lor (Nat.lor (Nat.shiftLeft 1 e.on) ((acc.get e.on).getD 0)) (befOf acc es)) (befOf acc es)
def befs : List Oper → Nat → T Nat → T Nat
  | [], _, acc => acc
  | o :: os, i, acc => befs os (i + 1) (acc.set i (befOf acc o.after.toList))
def bitOf (b : T Nat) (j i : Nat) : Bool := Nat.testBit ((b.get j).getD 0) i
def writersOf : List Oper → Nat → T Nat → T Nat
  | [], _, w => w
  | o :: os, i, w => writersOf os (i + 1) (match o.dst with | some d => w.set d i | none => w)
def tmpsOf : List Operand → List Nat
  | [] => []
  | .tmp k :: xs => k :: tmpsOf xs
  | _ :: xs => tmpsOf xs
def looks (ops : Array Oper) (o : Oper) : List Nat :=
  match o.guard with
  | none => tmpsOf o.op.operands.toList
  | some (j, _) => match (ops[j]?).bind (·.dst) with
    | some d => d :: tmpsOf o.op.operands.toList
    | none => tmpsOf o.op.operands.toList
def tmpOk (b w : T Nat) (j : Nat) : List Nat → Bool
  | [] => true
  | k :: ks => (match w.get k with
    | none => true
    | some i => Nat.beq i j || bitOf b j i || bitOf b i j) && tmpOk b w j ks
def edgesOk (j : Nat) : List Edge → Bool
  | [] => true
  | e :: es => cond (Region.binds .any e) (Nat.blt e.on j) true && edgesOk j es
def chainOf (tb : Tab) : List Oper → Nat → List Nat
  | [], _ => []
  | o :: os, i => match cls tb o.op with | .chain => i :: chainOf tb os (i + 1) | _ => chainOf tb os (i + 1)
def countB (p : Nat → Bool) : List Nat → Nat
  | [] => 0
  | x :: xs => cond (p x) (countB p xs + 1) (countB p xs)
def chainOk (b : T Nat) : List Nat → Bool
  | [] => true
  | x :: r => (match r with | [] => true | y :: _ => bitOf b y x) && chainOk b r
structure Row where
  o : Oper
  cls : Cls
  lo : Nat
  hi : Nat
  i : Nat
  bef : Nat
def rowOf (tb : Tab) (b : T Nat) (c : List Nat) (o : Oper) (i : Nat) : Row :=
  match cls tb o.op with
  | .pure => ⟨o, .pure, 0, 0, i, (b.get i).getD 0⟩
  | .read => ⟨o, .read, countB (fun x => bitOf b i x) c, countB (fun x => !bitOf b x i) c, i, (b.get i).getD 0⟩
  | .make => ⟨o, .make, 0, countB (fun x => !bitOf b x i) c, i, (b.get i).getD 0⟩
  | .chain => ⟨o, .chain, countB (fun x => Nat.blt x i) c, 0, i, (b.get i).getD 0⟩
def nextOk (o : Oper) : Bool := match o.op with | .next .. => false | _ => true
def loOk (b : T Nat) (c : List Nat) (i : Nat) : Nat → Bool
  | 0 => true
  | m + 1 => match c[m]? with | some x => bitOf b i x | none => false
def hiOk (b : T Nat) (c : List Nat) (i hi : Nat) : Bool := match c[hi]? with | some x => bitOf b x i | none => true
def rowOk (ops : Array Oper) (b w : T Nat) (c : List Nat) (i : Nat) (r : Row) : Bool :=
  edgesOk i r.o.after.toList && nextOk r.o && tmpOk b w i (looks ops r.o) && (match r.o.dst with | none => true | some d => match w.get d with | some k => Nat.beq k i | none => false) &&
  (match r.cls with
    | .pure => true
    | .read => loOk b c i r.lo && hiOk b c i r.hi
    | .make => hiOk b c i r.hi
    | .chain => match c[r.lo]? with | some x => Nat.beq x i | none => false)
def rowsOk (ops : Array Oper) (b w : T Nat) (c : List Nat) : Nat → List Row → Bool
  | _, [] => true
  | i, r :: rs => rowOk ops b w c i r && rowsOk ops b w c (i + 1) rs
def rowsOf (tb : Tab) (b : T Nat) (c : List Nat) : List Oper → Nat → List Row
  | [], _ => []
  | o :: os, i => rowOf tb b c o i :: rowsOf tb b c os (i + 1)
def madeOf : List Row → Nat
  | [] => 0
  | r :: rs => match r.cls with | .make => madeOf rs + 1 | _ => madeOf rs
structure Plan where
  ok : Bool
  made : Nat
  rows : List Row
def mkPlan (tb : Tab) (ops : Array Oper) : Plan :=
  let l := ops.toList
  let c := chainOf tb l 0
  let b := befs l 0 .e
  let rows := rowsOf tb b c l 0
  { ok := chainOk b c && rowsOk ops b (writersOf l 0 .e) c 0 rows, made := madeOf rows, rows := rows }
structure D where
  t : T V
  cur : H
  nx : Nat
  mx : Nat
  k : Nat
  past : List (H × Nat)
  active : List (Oper × T V × V × Nat)
  pend : List (Nat × Nat × O)
  ix : List (Nat × Nat)
def sameV (u : Option V) (v : V) : Bool := match u with | some u => V.eq u v | none => false
def pastOk (tb : Tab) (o : Oper) (t : T V) (v : V) : Nat → List (H × Nat) → Bool
  | 0, _ => true
  | _ + 1, [] => false
  | n + 1, h :: hs => sameV (quiet tb o.op o.type t h.1) v && pastOk tb o t v n hs
def activeOk (tb : Tab) (k : Nat) (h : H) : List (Oper × T V × V × Nat) → Bool
  | [] => true
  | (o, t, v, hi) :: r => cond (Nat.ble k hi) (sameV (quiet tb o.op o.type t h) v) true && activeOk tb k h r
def attach (k : Nat) : List (Nat × Nat × O) → H → H
  | [], h => h
  | (a, n, o) :: r, h => attach k r (cond (Nat.beq a k) (h.set n o) h)
def attachAll : List (Nat × Nat × O) → H → H
  | [], h => h
  | (_, n, o) :: r, h => attachAll r (h.set n o)
def dropAt (k : Nat) : List (Nat × Nat × O) → List (Nat × Nat × O)
  | [] => []
  | p :: r => cond (Nat.beq p.1 k) (dropAt k r) (p :: dropAt k r)
def ixOf (n : Nat) : List (Nat × Nat) → Option Nat
  | [] => none
  | p :: r => cond (Nat.beq p.1 n) (some p.2) (ixOf n r)
def pendFor (x : Row) (d : D) : List (Nat × Nat × O) := d.pend.filter fun p => Nat.blt x.hi p.1 && (match ixOf p.2.1 d.ix with | some j => Nat.testBit x.bef j | none => false)
def readCur (tb : Tab) (x : Row) (d : D) : Option D :=
  match quiet tb x.o.op x.o.type d.t d.cur with
  | none => none
  | some v => cond (pastOk tb x.o d.t v (d.k - x.lo) d.past) (some { d with t := setDst d.t x.o.dst v, active := (x.o, d.t, v, x.hi) :: d.active }) none
def readPend (tb : Tab) (x : Row) (d : D) : Option D := (quiet tb x.o.op x.o.type d.t (attachAll (pendFor x d) .e)).map fun v => { d with t := setDst d.t x.o.dst v }
def stepD (tb : Tab) (rc : Rec) (ops : Array Oper) (x : Row) (d : D) : Option D :=
  match wanted ops x.o d.t with
  | none => none
  | some w => match x.cls with
    | .pure => cond w ((quiet tb x.o.op x.o.type d.t .e).map fun v => { d with t := setDst d.t x.o.dst v }) (some { d with t := setDst d.t x.o.dst undefV })
    | .read => cond w (match readCur tb x d with
        | some d' => some d'
        | none => readPend tb x d)
        (some { d with t := setDst d.t x.o.dst undefV })
    | .make => cond w (cond (Nat.ble d.k x.hi) ((makes tb x.o.op d.t).map fun (y, mk) => { d with t := setDst d.t x.o.dst (mk d.mx), mx := d.mx + 1, pend := (x.hi + 1, d.mx, y) :: d.pend, ix := (d.mx, x.i) :: d.ix }) none)
        (some { d with t := setDst d.t x.o.dst undefV, mx := d.mx + 1 })
    | .chain => cond (Nat.beq d.k x.lo) (
      match cond w (eff tb rc x.o.op x.o.type d.t (attach (d.k + 1) d.pend d.cur) d.nx) (some (undefV, attach (d.k + 1) d.pend d.cur, d.nx)) with
      | none => none
      | some (v, h, nx) => cond (activeOk tb (d.k + 1) h d.active) (some { d with t := setDst d.t x.o.dst v, cur := h, nx := nx, k := d.k + 1, past := (d.cur, d.nx) :: d.past, pend := dropAt (d.k + 1) d.pend }) none) none
def runD (tb : Tab) (rc : Rec) (ops : Array Oper) : List Row → D → Option D
  | [], d => some d
  | x :: xs, d => match stepD tb rc ops x d with
    | none => none
    | some d => runD tb rc ops xs d
def drawn (tb : Tab) (rc : Rec) (ops : Array Oper) (s : S) : Option S :=
  cond (mkPlan tb ops).ok (match runD tb rc ops (mkPlan tb ops).rows { t := s.t, cur := s.h, nx := s.nx + (mkPlan tb ops).made, mx := s.nx, k := 0, past := [], active := [], pend := [], ix := [] } with
    | none => none
    | some d => cond (Nat.ble d.mx (s.nx + (mkPlan tb ops).made)) (some { t := d.t, h := attachAll d.pend d.cur, nx := d.nx, m := s.m }) none) none
def S.eq (a b : S) : Bool := Nat.beq a.nx b.nx && natsEq a.m b.m && T.eqBy V.eq a.t b.t && T.eqBy O.eq a.h b.h
def R3.eq (a b : R3) : Bool := V.eq a.1 b.1 && Nat.beq a.2.2 b.2.2 && T.eqBy O.eq a.2.1 b.2.1
def dedup {α : Type} (f : α → α → Bool) : List α → List α
  | [] => []
  | [x] => [x]
  | x :: xs => let r := dedup f xs; cond (r.any (f x)) r (x :: r)
inductive X where
  | normal | exit (id : Nat) | ret
abbrev Out := X × S
structure Ctx where
  tb : Tab
  rc : Rec
  inRound : Option Nat
  rounds : Nat
def Out.next (o : Out) : Option S := match o.1 with | .normal => some o.2 | _ => none
def Out.gone (o : Out) : Bool := match o.1 with | .normal => false | _ => true
noncomputable def T.keep {α β : Type} (a : T α) : T β → T β :=
  T.rec (motive := fun _ => T β → T β) (fun _ => .e) (fun _ v _ ia ib b => T.rec (motive := fun _ => T β) .e (fun c w d _ _ => .n (ia c) (match v with | some _ => w | none => none) (ib d)) b) a
theorem T.keep_e {α β : Type} (b : T β) : T.keep (.e : T α) b = .e := rfl
theorem T.keep_ne {α β : Type} (a b : T α) (v : Option α) : T.keep (.n a v b) (.e : T β) = .e := rfl
theorem T.keep_n {α β : Type} (a b : T α) (v : Option α) (c d : T β) (w : Option β) : T.keep (.n a v b) (.n c w d) = .n (T.keep a c) (match v with | some _ => w | none => none) (T.keep b d) := rfl
def dropIters (h : H) : List Nat → H
  | [] => h
  | n :: ns => dropIters (match h.get n with | some (.iter m left _) => h.set n (.iter m left none) | _ => h) ns
def keysT {α : Type} (g : Nat → Nat) : T α → List Nat
  | .e => []
  | .n a v b => (match v with | some _ => [g 0] | none => []) ++ keysT (fun k => g (2 * k + 1)) a ++ keysT (fun k => g (2 * k + 2)) b
def namesT : T V → List Nat
  | .e => []
  | .n a v b => (match v with | some v => namesV v | none => []) ++ namesT a ++ namesT b
def forget (s0 s : S) (its : List Nat) : S := { s with t := T.keep s0.t s.t, h := dropIters (reach s.h 100000 (namesT (T.keep s0.t s.t) ++ keysT id s0.h) .e) its }
def itersOf : T V → H → List Nat
  | .e, _ => []
  | .n a v b, h => (match v with | some (.ptr r 0) => (match h.get r with | some (.iter ..) => [r] | _ => []) | _ => []) ++ itersOf a h ++ itersOf b h
def keyCode (a : Nat) : V → Nat
  | .agg [.int _ (.ofNat x), .int _ (.ofNat y)] => Nat.add (Nat.mul (Nat.add (Nat.mul a 64) x) 64) y
  | .int _ (.ofNat x) => Nat.add (Nat.mul a 64) x
  | _ => Nat.add (Nat.mul a 64) 1
def keysCode : List (V × V) → Nat → Nat
  | [], a => a
  | e :: es, a => keysCode es (keyCode a e.1)
def itCode (h : H) : List Nat → Nat
  | [] => 0
  | n :: ns => Nat.add (Nat.mul (itCode h ns) 64) (match h.get n with
    | some (.iter _ l _) => keysCode l.must l.k
    | _ => 0)
def coded (its : List Nat) (s : S) : Nat × S := (itCode s.h its, s)
def mergeS (s0 : S) (l : List S) : List S :=
  match l with
  | [] => []
  | [s] => [s]
  | l => (dedup (fun a b => Nat.beq a.1 b.1 && S.eq a.2 b.2) (l.map fun s => coded (itersOf s0.t s0.h) (forget s0 s (itersOf s0.t s0.h)))).map (·.2)
def iter (f : S → Option (List Out)) (s0 : S) : Nat → List S → List Out → Option (List Out)
  | _, [], acc => some acc
  | 0, _, _ => none
  | n + 1, l, acc =>
    match eachL f l with
    | none => none
    | some outs => iter f s0 n (mergeS s0 (outs.filterMap Out.next)) (acc ++ outs.filter Out.gone)
def jumpOf : Option Code → Option X
  | none => some .normal
  | some .ret => some .ret
  | some (.exit id) => some (.exit id)
  | _ => none
def hasBody (tb : Tab) (f : Nat) : Bool :=
  match tb.fn f with
  | some fn => fn.body.isSome
  | none => false
def code (c : Ctx) : Code → S → Option (List Out)
  | .skip, s => some [(.normal, s)]
  | .label _, s => some [(.normal, s)]
  | .region _ ops draw, s => cond draw ((drawn c.tb c.rc ops s).map fun s => [(.normal, s)]) ((runOps c.tb c.rc ops ops.toList s).map fun l => l.map fun s => (.normal, s))
  | .seq a b, s => match code c a s with
    | none => none
    | some outs => eachL (fun o => match o.1 with | .normal => code c b o.2 | _ => some [o]) outs
  | .cond x a b, s => match ev s.t x with
    | some (.bool true) => code c a s
    | some (.bool false) => code c b s
    | _ => none
  | .block id b, s => (code c b s).map fun outs => outs.map fun o => match o.1 with
    | .exit j => cond (Nat.beq j id) (.normal, o.2) o
    | _ => o
  | .loop b, s => iter (code c b) s c.rounds [s] []
  | .exit id, s => some [(.exit id, s)]
  | .ret, s => some [(.ret, s)]
  | .rangeFunc g ps assign body, s => match ev s.t g with
    | some (.fn f first cap) =>
      match (match c.inRound with
        | some l => (match s.h.get l with | some (.loop _ _ _ _ _ _ d) => some (d, s) | _ => none)
        | none => some (s.nx, { s with h := s.h.set s.nx (.defer true), nx := s.nx + 1, m := s.nx :: s.m })) with
      | none => none
      | some (d, s) =>
        match cond (hasBody c.tb f) (callFn c.tb c.rc f (first ++ [.yld s.nx] ++ cap) (s.h.set s.nx (.loop .ready none s.t ps.toList assign body d)) (s.nx + 1)) none with
        | none => none
        | some (_, h2, nx2) => match h2.get s.nx with
          | some (.loop st pend _ _ _ _ _) => match st with
            | .busy => none
            | _ => match jumpOf pend with
              | none => none
              | some j => some [(j, { s with h := h2.del s.nx, nx := nx2 })]
          | _ => none
    | _ => none
  | _, _ => none
def dstOk (n : Nat) : Code → Bool
  | .region _ ops _ => ops.toList.all fun o => match o.dst with | none => true | some d => Nat.blt d n
  | .seq a b | .cond _ a b => dstOk n a && dstOk n b
  | .block _ c | .loop c | .scope c => dstOk n c
  | .rangeFunc _ ps a b => ps.toList.all (Nat.blt · n) && dstOk n a && dstOk n b
  | _ => true
def resOf (tb : Tab) (t : T V) (h : H) : List ResultVar → Option (List V)
  | [] => some []
  | .tmp i :: r => match t.get i with
    | none => none
    | some v => (resOf tb t h r).map (v :: ·)
  | .cell a ty :: r => match t.get a with
    | some (.ptr n off) => match load tb h ty n off with
      | none => none
      | some v => (resOf tb t h r).map (v :: ·)
    | _ => none
def takeMarks : List Nat → H → Option H
  | [], h => some h
  | d :: ds, h => match h.get d with
    | some (.defer true) => takeMarks ds (h.del d)
    | _ => none
def leaveFn (tb : Tab) (fn : Func) (o : Out) : Option R3 :=
  match o.1 with
  | .exit _ => none
  | _ => match takeMarks o.2.m o.2.h with
    | none => none
    | some h => match resOf tb o.2.t h fn.results.toList with
      | some [v] => some (v, h, o.2.nx)
      | some vs => some (.tup vs, h, o.2.nx)
      | none => none
def mapO {α β : Type} (f : α → Option β) : List α → Option (List β)
  | [] => some []
  | x :: xs => match f x with
    | none => none
    | some y => match mapO f xs with
      | none => none
      | some ys => some (y :: ys)
def gcR (ns : List Nat) (mx : Nat) (r : R3) : R3 := (r.1, reach r.2.1 100000 (namesV r.1 ++ ns) .e, mx)
def maxNx : List R3 → Nat
  | [] => 0
  | r :: rs => cond (Nat.ble r.2.2 (maxNx rs)) (maxNx rs) r.2.2
def oneR (h : H) (rs : List R3) : Option R3 :=
  match dedup R3.eq rs with
  | [r] => some r
  | [] => none
  | _ => match dedup R3.eq (rs.map (gcR (keysT id h) (maxNx rs))) with
    | [r] => some r
    | _ => none
def callBody (tb : Tab) (rounds : Nat) (rc : Rec) (f : Nat) (args : List V) (h : H) (nx : Nat) : Option R3 :=
  match tb.fn f with
  | none => none
  | some fn => match fn.body with
    | none => none
    | some b => cond (Nat.ble args.length fn.ntmps && dstOk fn.ntmps b) (match code { tb := tb, rc := rc, inRound := none, rounds := rounds } b { t := T.ofList .e 0 args, h := h, nx := nx, m := [] } with
      | none => none
      | some outs => match mapO (leaveFn tb fn) outs with
        | none => none
        | some rs => oneR h rs) none
def setParams : List Nat → List V → T V → T V
  | p :: ps, v :: vs, t => setParams ps vs (t.set p v)
  | _, _, t => t
def endRound (l : Nat) (o : Out) : Option R3 :=
  match o.2.m with
  | _ :: _ => none
  | [] => match o.2.h.get l with
    | some (.loop _ _ t ps a b d) => match o.1 with
      | .normal => some (.bool true, o.2.h.set l (.loop .ready none t ps a b d), o.2.nx)
      | .ret => some (.bool false, o.2.h.set l (.loop .done (some .ret) t ps a b d), o.2.nx)
      | .exit id => some (.bool false, o.2.h.set l (.loop .done (some (.exit id)) t ps a b d), o.2.nx)
    | _ => none
def roundBody (tb : Tab) (rounds : Nat) (rc : Rec) (l : Nat) (args : List V) (h : H) (nx : Nat) : Option R3 :=
  match h.get l with
  | some (.loop .ready _ t ps assign body _) => cond (Nat.beq args.length ps.length) (
    let c : Ctx := { tb := tb, rc := rc, inRound := some l, rounds := rounds }
    match code c assign { t := setParams ps args t, h := h, nx := nx, m := [] } with
    | some [(.normal, s)] => match s.h.get l with
      | some (.loop .ready p t ps a b d) => match code c body { s with h := s.h.set l (.loop .busy p t ps a b d) } with
        | none => none
        | some outs => match mapO (endRound l) outs with
          | some [r] => some r
          | _ => none
      | _ => none
    | _ => none) none
  | _ => none
def recN (tb : Tab) (rounds : Nat) : Nat → Rec
  | 0 => { call := fun _ _ _ _ => none, round := fun _ _ _ _ => none }
  | n + 1 => { call := callBody tb rounds (recN tb rounds n), round := roundBody tb rounds (recN tb rounds n) }
end
end Ev
