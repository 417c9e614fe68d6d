/- The evaluator: tries, operations, code. Definitions only. -/
import GoSem.Claim
import Derived.Orders
set_option linter.unusedVariables false
set_option linter.unusedSimpArgs false
section
namespace Ev

inductive T (α : Type) where
  | nil
  | node (l : T α) (v : Option α) (r : T α)

def T.get {α : Type} : T α → Nat → Option α
  | .nil, _ => none
  | .node l v r, k =>
    match k with
    | 0 => v
    | k + 1 => match k % 2 with
      | 0 => l.get (k / 2)
      | _ => r.get (k / 2)

/-- Evaluated ahead. -/
def T.frc {α β : Type} (t : T α) (k : T α → β) : β :=
  match t with
  | .nil => k .nil
  | .node l v r => k (.node l v r)

theorem T.frc_eq {α β : Type} (t : T α) (k : T α → β) : t.frc k = k t := by cases t <;> rfl

def T.setF {α : Type} : Nat → T α → Nat → α → T α
  | 0, t, _, _ => t
  | f + 1, .nil, k, x =>
    match k with
    | 0 => .node .nil (some x) .nil
    | k + 1 => match k % 2 with
      | 0 => (T.setF f .nil (k / 2) x).frc fun y => .node y none .nil
      | _ => (T.setF f .nil (k / 2) x).frc fun y => .node .nil none y
  | f + 1, .node l v r, k, x =>
    match k with
    | 0 => .node l (some x) r
    | k + 1 => match k % 2 with
      | 0 => (T.setF f l (k / 2) x).frc fun y => .node y v r
      | _ => (T.setF f r (k / 2) x).frc fun y => .node l v y

def T.set {α : Type} (t : T α) (k : Nat) (x : α) : T α := T.setF (k + 1) t k x

theorem T.get_nil {α : Type} (k : Nat) : (T.nil : T α).get k = none := by simp [T.get]

theorem T.get_one {α : Type} (x : α) (k : Nat) : (T.node .nil (some x) .nil).get k = if k = 0 then some x else none := by
  cases k with
  | zero => simp [T.get]
  | succ k => simp only [T.get]; rcases Nat.mod_two_eq_zero_or_one k with hk | hk <;> simp [hk, T.get_nil]

theorem T.get_setF {α : Type} (f : Nat) : ∀ (t : T α) (k j : Nat) (x : α), k < f → (T.setF f t k x).get j = if j = k then some x else t.get j := by
  induction f with
  | zero => intro t k j x h; omega
  | succ f ih =>
    intro t k j x h
    cases t with
    | nil =>
      cases k with
      | zero => simp only [T.setF, T.get_one, T.get_nil]
      | succ k =>
        have hlt : k / 2 < f := by omega
        simp only [T.setF, T.frc_eq]
        rcases Nat.mod_two_eq_zero_or_one k with hk | hk <;> simp only [hk] <;> cases j with
          | zero => simp [T.get]
          | succ j =>
            simp only [T.get]
            rcases Nat.mod_two_eq_zero_or_one j with hj | hj <;> simp only [hj, ih _ _ _ _ hlt, T.get_nil]
            all_goals (by_cases e : j = k
                       · subst e; simp_all
                       · have e1 : ¬ j + 1 = k + 1 := by omega
                         simp only [e1, if_false]
                         try (rw [if_neg (by omega)]))
    | node l v r =>
      cases k with
      | zero => cases j <;> simp [T.setF, T.get]
      | succ k =>
        have hlt : k / 2 < f := by omega
        simp only [T.setF, T.frc_eq]
        rcases Nat.mod_two_eq_zero_or_one k with hk | hk <;> simp only [hk] <;> cases j with
          | zero => simp [T.get]
          | succ j =>
            simp only [T.get]
            rcases Nat.mod_two_eq_zero_or_one j with hj | hj <;> simp only [hj, ih _ _ _ _ hlt]
            all_goals (by_cases e : j = k
                       · subst e; simp_all
                       · have e1 : ¬ j + 1 = k + 1 := by omega
                         simp only [e1, if_false]
                         try (rw [if_neg (by omega)]))

theorem T.get_set {α : Type} (t : T α) (k j : Nat) (x : α) : (t.set k x).get j = if j = k then some x else t.get j :=
  T.get_setF (k + 1) t k j x (by omega)

end Ev
end

section
namespace Go.Ev
open Go _root_.Ev

/-! ### small forced words -/

/-- The list's spine is built at once. -/
def app {α : Type} : List α → List α → List α
  | [], ys => ys
  | x :: xs, ys => match app xs ys with
    | [] => [x]
    | z :: zs => x :: z :: zs

def nth {α : Type} : List α → Nat → Option α
  | [], _ => none
  | x :: xs, i => match i with
    | 0 => some x
    | i + 1 => nth xs i

/-- 'cs' with 'vs' from place 'o' on, if they fit. -/
def spl {α : Type} : List α → Nat → List α → Option (List α)
  | cs, 0, [] => some cs
  | [], 0, _ :: _ => none
  | _ :: cs, 0, v :: vs => match spl cs 0 vs with
    | some r => some (v :: r)
    | none => none
  | [], _ + 1, _ => none
  | c :: cs, o + 1, vs => match spl cs o vs with
    | some r => some (c :: r)
    | none => none

/-- 'n' items from place 'o' on, if they are there. -/
def cut {α : Type} : List α → Nat → Nat → Option (List α)
  | _, 0, 0 => some []
  | [], 0, _ + 1 => none
  | c :: cs, 0, n + 1 => match cut cs 0 n with
    | some r => some (c :: r)
    | none => none
  | [], _ + 1, _ => none
  | _ :: cs, o + 1, n => cut cs o n

def len {α : Type} : List α → Nat → Nat
  | [], n => n
  | _ :: xs, n => len xs (Nat.succ n)

def Int.beqF : Int → Int → Bool
  | .ofNat a, .ofNat b => Nat.beq a b
  | .negSucc a, .negSucc b => Nat.beq a b
  | _, _ => false

def Int.ltF : Int → Int → Bool
  | .ofNat a, .ofNat b => Nat.ble (Nat.succ a) b
  | .negSucc _, .ofNat _ => true
  | .ofNat _, .negSucc _ => false
  | .negSucc a, .negSucc b => Nat.ble (Nat.succ b) a

def topOf : IntKind → Nat
  | .i8 => 127 | .i16 => 32767 | .i32 => 2147483647 | .i64 => 9223372036854775807
  | .u8 => 255 | .u16 => 65535 | .u32 => 4294967295 | .u64 => 18446744073709551615

def botOf : IntKind → Nat     -- negSucc m fits if m < botOf
  | .i8 => 128 | .i16 => 32768 | .i32 => 2147483648 | .i64 => 9223372036854775808
  | _ => 0

def wrapF (k : IntKind) (n : Int) : Int :=
  match n with
  | .ofNat m => match Nat.ble m (topOf k) with
    | true => .ofNat m
    | false => k.wrap (.ofNat m)
  | .negSucc m => match Nat.ble (Nat.succ m) (botOf k) with
    | true => .negSucc m
    | false => k.wrap (.negSucc m)

/-- An integer value, its number at hand. -/
def mkInt (k : IntKind) (n : Int) : Value :=
  match wrapF k n with
  | .ofNat m => .int k (.ofNat m)
  | .negSucc m => .int k (.negSucc m)

def toNatF : Int → Option Nat
  | .ofNat m => some m
  | .negSucc _ => none

/-! ### the abstract heap -/

inductive AObj where
  | row (elem : TypeId) (z : Nat) (cells : List Value) (grp : Option Nat) (old : Option Nat)
  | map (es : List (Value × Value × Nat)) (clock : Nat)
  | siter (s : List UInt8) (pos : Nat)

inductive St where
  | mk (h : T AObj) (nx : Nat) (ep : T Nat)

def epAt (ep : T Nat) (g : Nat) : Nat := match ep.get g with
  | some e => e
  | none => 0

def readable (ep : T Nat) (grp old : Option Nat) : Bool :=
  match old with
  | none => true
  | some e => match grp with
    | some g => Nat.beq (epAt ep g) e
    | none => true

/-- The cells of a row that may be read. -/
def St.cellsOf (s : St) (A : Nat) : Option (List Value) :=
  match s with
  | .mk h _ ep => match h.get A with
    | some (.row _ _ cs g o) => match readable ep g o with
      | true => some cs
      | false => none
    | _ => none

def St.new (s : St) (o : AObj) : Nat × St :=
  match s with
  | .mk h nx ep => (nx, .mk (h.set nx o) (Nat.succ nx) ep)

/-- Each the value of one cell. -/
def ones : List Value → Bool
  | [] => true
  | v :: r => match v with
    | .agg _ => false
    | .tuple _ => false
    | _ => ones r

/-- Store cells into a row that is nobody's elder version. -/
def St.write (s : St) (A o : Nat) (vs : List Value) : Option St :=
  match s with
  | .mk h nx ep => match h.get A with
    | some (.row e z cs g none) => match spl cs o vs with
      | some cs' => match g with
        | none => some (.mk (h.set A (.row e z cs' none none)) nx ep)
        | some g => some (.mk (h.set A (.row e z cs' (some g) none)) nx (ep.set g (Nat.succ (epAt ep g))))
      | none => none
    | _ => none

/-! ### the code -/

/-- The kinds of the cells of a key. -/
inductive FK where
  | int
  | bool
  | str

/-- The kinds of values that may be nil. -/
inductive NK where
  | ptr
  | sl
  | map
  | fn

inductive KK where
  | one (k : FK)
  | row (ks : List FK)

inductive Opd where
  | t (n : Nat)
  | c (v : Value)

inductive COp where
  | move (x : Opd)
  | pick (c a b : Opd)
  | alloc (elem : TypeId) (cells : List Value)
  | box (elem : TypeId) (x : Opd)
  | build (cells : List Value) (parts : List (Nat × Nat × Opd))
  | buildSlice (elem : TypeId) (z len : Nat) (cells : List Value) (parts : List (Nat × Opd))
  | load (a : Opd)
  | loadN (n : Nat) (a : Opd)
  | store (n : Nat) (a x : Opd)
  | nilCheck (x : Opd)
  | bin (op : BinOp) (x y : Opd)
  | eqB (neg : Bool) (x y : Opd)                    -- bools
  | eqNil (nk : NK) (neg : Bool) (x : Opd)                    -- a pointer, slice, map or function against nil
  | eqFlat (ks : KK) (neg : Bool) (x y : Opd)                 -- structs, arrays of whole numbers, bools and strings
  | not (x : Opd)
  | neg (x : Opd)
  | conv (k : IntKind) (x : Opd)
  | runeStr (x : Opd)
  | str (x : Opd)
  | bytesOf (elem : TypeId) (x : Opd)
  | strOf (x : Opd)
  | mkFunc (f : FuncId) (first captured : List Opd)
  | mkMap
  | mkSlice (elem : TypeId) (bytes z : Nat) (zero : List Value) (len cap : Opd)
  | sub (x : Opd) (lo hi : Option Opd)              -- a slice of a string
  | slice (z : Nat) (x : Opd) (lo hi : Option Opd)
  | faddr (off : Nat) (x : Opd)
  | field (off : Nat) (x : Opd)
  | fieldN (off n : Nat) (x : Opd)
  | iaddr (z : Nat) (x i : Opd)
  | iaddrA (n z : Nat) (x i : Opd)
  | idxStr (x i : Opd)
  | idxA (n : Nat) (x i : Opd)
  | idxAN (n z : Nat) (x i : Opd)
  | lookup (kk : KK) (zero : Value) (ok : Bool) (m k : Opd)
  | mapSet (kk : KK) (m k v : Opd)
  | mapEntry (kk : KK) (zero : Value) (m k : Opd)
  | entryStore (m s v : Opd)
  | extract (i : Nat) (x : Opd)
  | call (f : FuncId) (args : List Opd)
  | callv (x : Opd) (args : List Opd)
  | lenStr (x : Opd)
  | lenSl (x : Opd)
  | lenMap (x : Opd)
  | lenC (n : Nat)
  | append (elem : TypeId) (z bytes : Nat) (x y : Opd)
  | copy (z : Nat) (x y : Opd)
  | delete (kk : KK) (m k : Opd)
  | most (least : Bool) (x y : Opd)                 -- max, min of two whole numbers
  | range (x : Opd)                                 -- over a string
  | next (x : Opd)
  | bad

structure CE where
  dst : Option Nat
  op : COp
  guard : Option (Nat × Bool)

inductive CCode where
  | skip
  | reg (ops : List CE)                             -- in the order of the text
  | draw (ops : List (CE × Nat))                    -- an order is drawn; behind how many effects each may come at the latest
  | seq (a b : CCode)
  | cond (c : Opd) (a b : CCode)
  | block (id : Nat) (a : CCode)
  | loop (a : CCode)
  | exit (id : Nat)
  | ret

inductive CRes where
  | tmp (t : Nat)
  | cell (a : Nat)
  | cells (n a : Nat)

structure CFunc where
  ntmps : Nat
  res : List CRes
  body : CCode

end Go.Ev
end

section
namespace Go.Ev
open Go _root_.Ev

def undefV : Value := .tuple #[]

def Opd.ev (t : T Value) : Opd → Value
  | .c v => v
  | .t n => match t.get n with
    | some v => v
    | none => undefV

def evs (t : T Value) : List Opd → List Value
  | [] => []
  | x :: xs => x.ev t :: evs t xs

def cellsOfV : Value → List Value
  | .agg cs => cs.toList
  | v => [v]

/-- Part values laid into cells. -/
def fillF : List Value → List (Nat × Nat × Value) → Option (List Value)
  | cs, [] => some cs
  | cs, (off, n, v) :: r => match Nat.beq (len (cellsOfV v) 0) n with
    | true => match spl cs off (cellsOfV v) with
      | some cs' => fillF cs' r
      | none => none
    | false => none

def partsV (t : T Value) : List (Nat × Nat × Opd) → List (Nat × Nat × Value)
  | [] => []
  | (a, b, x) :: r => (a, b, x.ev t) :: partsV t r

def partsS (t : T Value) (z : Nat) : List (Nat × Opd) → List (Nat × Nat × Value)
  | [] => []
  | (i, x) :: r => (i * z, z, x.ev t) :: partsS t z r

def beqBytes : List UInt8 → List UInt8 → Bool
  | [], [] => true
  | a :: x, b :: y => match Nat.beq a.toNat b.toNat with
    | true => beqBytes x y
    | false => false
  | _, _ => false

def lessBytes : List UInt8 → List UInt8 → Bool
  | _, [] => false
  | [], _ :: _ => true
  | a :: x, b :: y => match Nat.ble (Nat.succ a.toNat) b.toNat with
    | true => true
    | false => match Nat.beq a.toNat b.toNat with
      | true => lessBytes x y
      | false => false

def strV (l : List UInt8) : Value := .string ⟨⟨l⟩⟩

def boolXor (neg b : Bool) : Bool := match neg with
  | true => match b with
    | true => false
    | false => true
  | false => match b with
    | true => true
    | false => false

/-- Two whole numbers, bools or strings: equal? -/
def flatEq1 : FK → Value → Value → Option Bool
  | .int, .int k a, .int k' b => match decide (k = k') with
    | true => some (Int.beqF a b)
    | false => none
  | .bool, .bool a, .bool b => some (match a with | true => b | false => boolXor true b)
  | .str, .string a, .string b => some (beqBytes a.data.toList b.data.toList)
  | _, _, _ => none

def flatEqs : List FK → List Value → List Value → Option Bool
  | [], [], [] => some true
  | k :: ks, x :: xs, y :: ys => match flatEq1 k x y with
    | some true => flatEqs ks xs ys
    | some false => match flatEqs ks xs ys with
      | some _ => some false
      | none => none
    | none => none
  | _, _, _ => none

def flatEq (kk : KK) (x y : Value) : Option Bool :=
  match kk with
  | .one k => flatEq1 k x y
  | .row ks => match x, y with
    | .agg a, .agg b => flatEqs ks a.toList b.toList
    | _, _ => none

def binInt (op : BinOp) (k : IntKind) (a b : Int) : Option Value :=
  match op with
  | .add => some (mkInt k (a + b))
  | .sub => some (mkInt k (a - b))
  | .mul => some (mkInt k (a * b))
  | .quo => match Int.beqF b 0 with
    | true => none
    | false => some (mkInt k (a.tdiv b))
  | .rem => match Int.beqF b 0 with
    | true => none
    | false => match a.tmod b with
      | .ofNat m => some (.int k (.ofNat m))
      | .negSucc m => some (.int k (.negSucc m))
  | .eql => some (.bool (Int.beqF a b))
  | .neq => some (.bool (boolXor true (Int.beqF a b)))
  | .lss => some (.bool (Int.ltF a b))
  | .gtr => some (.bool (Int.ltF b a))
  | .leq => some (.bool (boolXor true (Int.ltF b a)))
  | .geq => some (.bool (boolXor true (Int.ltF a b)))
  | .and => match a, b with
    | .ofNat m, .ofNat n => match (match Nat.ble m (topOf k) with | true => Nat.ble n (topOf k) | false => false) with
      | true => some (.int k (.ofNat (Nat.land m n)))
      | false => none
    | _, _ => none
  | .or => match a, b with
    | .ofNat m, .ofNat n => match (match Nat.ble m (topOf k) with | true => Nat.ble n (topOf k) | false => false) with
      | true => some (.int k (.ofNat (Nat.lor m n)))
      | false => none
    | _, _ => none
  | .xor => match a, b with
    | .ofNat m, .ofNat n => match (match Nat.ble m (topOf k) with | true => Nat.ble n (topOf k) | false => false) with
      | true => some (.int k (.ofNat (Nat.xor m n)))
      | false => none
    | _, _ => none
  | _ => none

def minF (a b : Nat) : Nat := match Nat.ble a b with
  | true => a
  | false => b

def boolOr (a b : Bool) : Bool := match a with
  | true => true
  | false => match b with
    | true => true
    | false => false

def bitsOf : IntKind → Nat
  | .i8 | .u8 => 8
  | .i16 | .u16 => 16
  | .i32 | .u32 => 32
  | .i64 | .u64 => 64

def shiftInt (op : BinOp) (k : IntKind) (a b : Int) : Option Value :=
  match b with
  | .negSucc _ => none
  | .ofNat n =>
    let m := minF n (bitsOf k)
    match op with
    | .shl => match a with
      | .ofNat x => some (mkInt k (.ofNat (Nat.mul x (Nat.pow 2 m))))
      | .negSucc _ => none
    | .shr => match a with
      | .ofNat x => some (.int k (.ofNat (Nat.div x (Nat.pow 2 m))))
      | .negSucc _ => none
    | _ => none

def binStr (op : BinOp) (x y : List UInt8) : Option Value :=
  match op with
  | .add => match Nat.ble (len x 0 + len y 0) 9223372036854775807 with
    | true => some (strV (app x y))
    | false => none
  | .eql => some (.bool (beqBytes x y))
  | .neq => some (.bool (boolXor true (beqBytes x y)))
  | .lss => some (.bool (lessBytes x y))
  | .gtr => some (.bool (boolXor true (boolOr (lessBytes x y) (beqBytes x y))))
  | .leq => some (.bool (boolOr (lessBytes x y) (beqBytes x y)))
  | .geq => some (.bool (boolXor true (lessBytes x y)))
  | _ => none

def binF (op : BinOp) (x y : Value) : Option Value :=
  match x, y with
  | .int k a, .int k' b => match op with
    | .shl => shiftInt .shl k a b
    | .shr => shiftInt .shr k a b
    | _ => match decide (k = k') with
      | true => binInt op k a b
      | false => none
  | .string a, .string b => binStr op a.data.toList b.data.toList
  | _, _ => none

def isNil : NK → Value → Option Bool
  | .ptr, .pointer none => some true
  | .ptr, .pointer (some _) => some false
  | .sl, .slice none _ _ => some true
  | .sl, .slice (some _) _ _ => some false
  | .map, .map none => some true
  | .map, .map (some _) => some false
  | .fn, .nilFunc => some true
  | .fn, .func .. => some false
  | _, _ => none

/-- A place in memory. -/
def addrOf : Value → Option (Nat × Nat)
  | .pointer (some ⟨A, o, none⟩) => some (A, o)
  | _ => none

def ptrV (A o : Nat) : Value := .pointer (some ⟨A, o, none⟩)

def intN : Value → Option Nat
  | .int _ (.ofNat n) => some n
  | _ => none

def bytesV : List UInt8 → List Value
  | [] => []
  | b :: r => .int .u8 (.ofNat b.toNat) :: bytesV r

def unbytes : List Value → Option (List UInt8)
  | [] => some []
  | .int .u8 (.ofNat n) :: r => match unbytes r with
    | some l => some (UInt8.ofNat n :: l)
    | none => none
  | _ :: _ => none

/-- The cells behind a slice's value. -/
def sliceCells (s : St) (z : Nat) : Value → Option (List Value)
  | .slice none _ _ => some []
  | .slice (some ⟨A, o, none⟩) n _ => match n with
    | 0 => some []
    | n + 1 => match s.cellsOf A with
      | some cs => cut cs o ((n + 1) * z)
      | none => none
  | _ => none

def srcLen : Value → Option Nat
  | .slice _ n _ => some n
  | .string b => some (len b.data.toList 0)
  | _ => none

def srcCells (s : St) (z : Nat) (n : Nat) : Value → Option (List Value)
  | .string b => match z with
    | 1 => cut (bytesV b.data.toList) 0 n
    | _ => none
  | .slice none _ _ => match n with
    | 0 => some []
    | _ => none
  | .slice (some ⟨A, o, none⟩) m _ => match Nat.ble n m with
    | false => none
    | true => match n with
      | 0 => some []
      | n + 1 => match s.cellsOf A with
        | some cs => cut cs o ((n + 1) * z)
        | none => none
  | _ => none

def grpOf (g : Option Nat) (A : Nat) : Nat := match g with
  | some g => g
  | none => A

/-- A row that takes the place of an elder one: 'm' of its first cells are the elder one's from 'o' on. -/
def St.heir (s : St) (A o m : Nat) (elem z : Nat) (cells : List Value) : Option (Nat × St) :=
  match s with
  | .mk h nx ep => match h.get A with
    | some (.row e z' cs g none) => match Nat.beq z z' with
      | false => none
      | true =>
        let g' := grpOf g A
        match Nat.beq (o + m) (len cs 0) with
        | true => some (nx, .mk ((h.set A (.row e z' cs (some g') (some (epAt ep g')))).set nx (.row elem z cells (some g') none)) (Nat.succ nx) ep)
        | false => match Nat.ble (o + m) (len cs 0) with
          | true => some (nx, .mk ((h.set A (.row e z' cs (some g') (some (epAt ep g')))).set nx (.row elem z cells (some g') none)) (Nat.succ nx) (ep.set g' (Nat.succ (epAt ep g'))))
          | false => none
    | _ => none

def appendF (s : St) (elem z bytes : Nat) (x y : Value) : Option (Value × St) :=
  match x, srcLen y with
  | .slice base n cap, some k => match srcCells s z k y with
    | none => none
    | some new => match Nat.ble (n + k) cap with
      | true => match base with
        | none => match Nat.beq k 0 with
          | true => some (.slice none n cap, s)
          | false => none
        | some ⟨A, o, sp⟩ => match sp with
          | some _ => none
          | none => match new with
            | [] => some (.slice (some ⟨A, o, none⟩) (n + k) cap, s)
            | _ => match ones new with
              | true => match s.write A (o + n * z) new with
                | some s' => some (.slice (some ⟨A, o, none⟩) (n + k) cap, s')
                | none => none
              | false => none
      | false => match (match Nat.ble (2 * (n + k) * bytes) 281474976710656 with
          | true => Nat.ble (n + k) 281474976710656
          | false => false) with
        | false => none
        | true => match base with
          | none => match s.new (.row elem z new none none) with
            | (A', s') => some (.slice (some ⟨A', 0, none⟩) (n + k) (n + k), s')
          | some ⟨A, o, sp⟩ => match sp with
            | some _ => none
            | none => match sliceCells s z (.slice (some ⟨A, o, none⟩) n cap) with
              | none => none
              | some old => match ones new with
                | true => match s.heir A o (n * z) elem z (app old new) with
                  | some (A', s') => some (.slice (some ⟨A', 0, none⟩) (n + k) (n + k), s')
                  | none => none
                | false => none
  | _, _ => none

def findK (flat : KK) (k : Value) : List (Value × Value × Nat) → Nat → Option (Option (Nat × Value × Nat))
  | [], _ => some none
  | (k', v, b) :: r, i => match flatEq flat k k' with
    | some true => some (some (i, v, b))
    | some false => findK flat k r (Nat.succ i)
    | none => none

def setEnt : List (Value × Value × Nat) → Nat → Value → Value → List (Value × Value × Nat)
  | [], _, _, _ => []
  | (k', v', b) :: r, i, k, v => match i with
    | 0 => (k, v, b) :: r
    | i + 1 => match setEnt r i k v with
      | [] => [(k', v', b)]
      | e :: es => (k', v', b) :: e :: es

def snocF {α : Type} : List α → α → List α
  | [], x => [x]
  | y :: ys, x => match snocF ys x with
    | [] => [y]
    | z :: zs => y :: z :: zs

def St.mapOf (s : St) (A : Nat) : Option (List (Value × Value × Nat) × Nat) :=
  match s with
  | .mk h _ _ => match h.get A with
    | some (.map es c) => some (es, c)
    | _ => none

def St.setObj (s : St) (A : Nat) (o : AObj) : St :=
  match s with
  | .mk h nx ep => .mk (h.set A o) nx ep

def St.iterOf (s : St) (A : Nat) : Option (List UInt8 × Nat) :=
  match s with
  | .mk h _ _ => match h.get A with
    | some (.siter l p) => some (l, p)
    | _ => none

def mapGet (s : St) (flat : KK) (m k : Value) : Option (Option (Nat × Value × Nat)) :=
  match m with
  | .map none => match flatEq flat k k with
    | some true => some none
    | _ => none
  | .map (some A) => match s.mapOf A with
    | some (es, _) => match flatEq flat k k with
      | some true => findK flat k es 0
      | _ => none
    | none => none
  | _ => none

def mapSetF (s : St) (flat : KK) (m k v : Value) : Option St :=
  match m with
  | .map (some A) => match s.mapOf A with
    | some (es, c) => match flatEq flat k k with
      | some true => match findK flat k es 0 with
        | some (some (i, _, _)) => some (s.setObj A (.map (setEnt es i k v) c))
        | some none => some (s.setObj A (.map (snocF es (k, v, c)) (Nat.succ c)))
        | none => none
      | _ => none
    | none => none
  | _ => none

def hiOf (n : Nat) : Option Value → Option Nat
  | none => some n
  | some v => intN v

/-- Bounds of a slice expression: low, high within 'cap'. -/
def bounds (n cap : Nat) (lo hi : Option Value) : Option (Nat × Nat) :=
  match hiOf n hi with
  | none => none
  | some h => match Nat.ble h cap with
    | false => none
    | true => match hiOf 0 lo with
      | none => none
      | some l => match Nat.ble l h with
        | true => some (l, h)
        | false => none

/-- Are the items of a row of so many cells? -/
def St.strideIs (s : St) (A z : Nat) : Bool :=
  match s with
  | .mk h _ _ => match h.get A with
    | some (.row _ z' _ _ _) => Nat.beq z z'
    | _ => false

def optEv (t : T Value) : Option Opd → Option Value
  | none => none
  | some x => some (x.ev t)

def zerosF (zero : List Value) : Nat → List Value
  | 0 => []
  | n + 1 => app zero (zerosF zero n)

/-- What an operation that calls nothing does: its value, and memory behind it. -/
def doOp (t : T Value) (s : St) : COp → Option (Value × St)
  | .move x => some (x.ev t, s)
  | .pick c a b => match c.ev t with
    | .bool true => some (a.ev t, s)
    | .bool false => some (b.ev t, s)
    | _ => none
  | .alloc e cs => match s.new (.row e 0 cs none none) with
    | (A, s') => some (ptrV A 0, s')
  | .box e x => match s.new (.row e 0 (cellsOfV (x.ev t)) none none) with
    | (A, s') => some (ptrV A 0, s')
  | .build cs ps => match fillF cs (partsV t ps) with
    | some r => some (.agg ⟨r⟩, s)
    | none => none
  | .buildSlice e z n cs ps => match fillF cs (partsS t z ps) with
    | some r => match s.new (.row e z r none none) with
      | (A, s') => some (.slice (some ⟨A, 0, none⟩) n n, s')
    | none => none
  | .load a => match addrOf (a.ev t) with
    | some (A, o) => match s.cellsOf A with
      | some cs => match nth cs o with
        | some v => some (v, s)
        | none => none
      | none => none
    | none => none
  | .loadN n a => match addrOf (a.ev t) with
    | some (A, o) => match s.cellsOf A with
      | some cs => match cut cs o n with
        | some r => some (.agg ⟨r⟩, s)
        | none => none
      | none => none
    | none => none
  | .store n a x => match addrOf (a.ev t) with
    | some (A, o) => match Nat.beq (len (cellsOfV (x.ev t)) 0) n with
      | true => match ones (cellsOfV (x.ev t)) with
        | true => match s.write A o (cellsOfV (x.ev t)) with
          | some s' => some (undefV, s')
          | none => none
        | false => none
      | false => none
    | none => none
  | .nilCheck x => match x.ev t with
    | .pointer (some a) => some (.pointer (some a), s)
    | .func (.func f) a b => some (.func (.func f) a b, s)
    | _ => none
  | .bin op x y => match binF op (x.ev t) (y.ev t) with
    | some v => some (v, s)
    | none => none
  | .eqB neg x y => match x.ev t, y.ev t with
    | .bool a, .bool b => some (.bool (boolXor neg (match a with | true => b | false => boolXor true b)), s)
    | _, _ => none
  | .eqNil nk neg x => match isNil nk (x.ev t) with
    | some b => some (.bool (boolXor neg b), s)
    | none => none
  | .eqFlat kk neg x y => match flatEq kk (x.ev t) (y.ev t) with
    | some b => some (.bool (boolXor neg b), s)
    | none => none
  | .not x => match x.ev t with
    | .bool b => some (.bool (boolXor true b), s)
    | _ => none
  | .neg x => match x.ev t with
    | .int k n => some (mkInt k (0 - n), s)
    | _ => none
  | .conv k x => match x.ev t with
    | .int _ n => some (mkInt k n, s)
    | _ => none
  | .runeStr x => match intN (x.ev t) with
    | some n => match Nat.ble n 127 with
      | true => some (strV [UInt8.ofNat n], s)
      | false => none
    | none => none
  | .str x => match x.ev t with
    | .string b => some (.string b, s)
    | _ => none
  | .bytesOf e x => match x.ev t with
    | .string b => match s.new (.row e 1 (bytesV b.data.toList) none none) with
      | (A, s') => some (.slice (some ⟨A, 0, none⟩) (len b.data.toList 0) (len b.data.toList 0), s')
    | _ => none
  | .strOf x => match sliceCells s 1 (x.ev t) with
    | some cs => match unbytes cs with
      | some l => some (strV l, s)
      | none => none
    | none => none
  | .mkFunc f a b => some (.func (.func f) ⟨evs t a⟩ ⟨evs t b⟩, s)
  | .mkMap => match s.new (.map [] 0) with
    | (A, s') => some (.map (some A), s')
  | .mkSlice e bytes z zero n c => match intN (n.ev t), intN (c.ev t) with
    | some n, some c => match Nat.ble n c with
      | true => match Nat.ble (c * bytes) 281474976710656 with
        | true => match Nat.ble c 281474976710656 with
          | true => match s.new (.row e z (zerosF zero c) none none) with
            | (A, s') => some (.slice (some ⟨A, 0, none⟩) n c, s')
          | false => none
        | false => none
      | false => none
    | _, _ => none
  | .sub x lo hi => match x.ev t with
    | .string b => match bounds (len b.data.toList 0) (len b.data.toList 0) (optEv t lo) (optEv t hi) with
      | some (l, h) => match cut b.data.toList l (h - l) with
        | some r => some (strV r, s)
        | none => none
      | none => none
    | _ => none
  | .slice z x lo hi => match x.ev t with
    | .slice base n cap => match bounds n cap (optEv t lo) (optEv t hi) with
      | some (l, h) => match base with
        | none => match cap with
          | 0 => some (.slice none 0 0, s)
          | _ => none
        | some ⟨A, o, none⟩ => match s.strideIs A z with
          | true => some (.slice (some ⟨A, o + l * z, none⟩) (h - l) (cap - l), s)
          | false => none
        | some ⟨_, _, some _⟩ => none
      | none => none
    | _ => none
  | .faddr off x => match addrOf (x.ev t) with
    | some (A, o) => some (ptrV A (o + off), s)
    | none => none
  | .field off x => match x.ev t with
    | .agg cs => match nth cs.toList off with
      | some v => some (v, s)
      | none => none
    | _ => none
  | .fieldN off n x => match x.ev t with
    | .agg cs => match cut cs.toList off n with
      | some r => some (.agg ⟨r⟩, s)
      | none => none
    | _ => none
  | .iaddr z x i => match x.ev t, intN (i.ev t) with
    | .slice (some ⟨A, o, none⟩) n _, some i => match Nat.ble (Nat.succ i) n with
      | true => some (ptrV A (o + i * z), s)
      | false => none
    | _, _ => none
  | .iaddrA n z x i => match addrOf (x.ev t), intN (i.ev t) with
    | some (A, o), some i => match Nat.ble (Nat.succ i) n with
      | true => some (ptrV A (o + i * z), s)
      | false => none
    | _, _ => none
  | .idxStr x i => match x.ev t, intN (i.ev t) with
    | .string b, some i => match nth b.data.toList i with
      | some c => some (.int .u8 (.ofNat c.toNat), s)
      | none => none
    | _, _ => none
  | .idxA n x i => match x.ev t, intN (i.ev t) with
    | .agg cs, some i => match Nat.ble (Nat.succ i) n with
      | true => match nth cs.toList i with
        | some v => some (v, s)
        | none => none
      | false => none
    | _, _ => none
  | .idxAN n z x i => match x.ev t, intN (i.ev t) with
    | .agg cs, some i => match Nat.ble (Nat.succ i) n with
      | true => match cut cs.toList (i * z) z with
        | some r => some (.agg ⟨r⟩, s)
        | none => none
      | false => none
    | _, _ => none
  | .lookup flat zero ok m k => match mapGet s flat (m.ev t) (k.ev t) with
    | some (some (_, v, _)) => match ok with
      | true => some (.tuple #[v, .bool true], s)
      | false => some (v, s)
    | some none => match ok with
      | true => some (.tuple #[zero, .bool false], s)
      | false => some (zero, s)
    | none => none
  | .mapSet flat m k v => match mapSetF s flat (m.ev t) (k.ev t) (v.ev t) with
    | some s' => some (undefV, s')
    | none => none
  | .extract i x => match x.ev t with
    | .tuple vs => match nth vs.toList i with
      | some v => some (v, s)
      | none => none
    | _ => none
  | .lenStr x => match x.ev t with
    | .string b => some (.int .i64 (.ofNat (len b.data.toList 0)), s)
    | _ => none
  | .lenSl x => match x.ev t with
    | .slice _ n _ => some (.int .i64 (.ofNat n), s)
    | _ => none
  | .lenMap x => match x.ev t with
    | .map none => some (.int .i64 0, s)
    | .map (some A) => match s.mapOf A with
      | some (es, _) => some (.int .i64 (.ofNat (len es 0)), s)
      | none => none
    | _ => none
  | .lenC n => some (.int .i64 (.ofNat n), s)
  | .append e z bytes x y => appendF s e z bytes (x.ev t) (y.ev t)
  | .copy z x y => match x.ev t, srcLen (y.ev t) with
    | .slice base n _, some k =>
      let m := minF k n
      match srcCells s z m (y.ev t) with
      | none => none
      | some new => match new with
        | [] => some (.int .i64 (.ofNat m), s)
        | _ => match base with
          | some ⟨A, o, none⟩ => match ones new with
            | true => match s.write A o new with
              | some s' => some (.int .i64 (.ofNat m), s')
              | none => none
            | false => none
          | _ => none
    | _, _ => none
  | .range x => match x.ev t with
    | .string b => match s.new (.siter b.data.toList 0) with
      | (A, s') => some (ptrV A 0, s')
    | _ => none
  | .next x => match x.ev t with
    | .pointer (some ⟨A, 0, none⟩) => match s.iterOf A with
      | some (l, pos) => match nth l pos with
        | some c => match Nat.ble c.toNat 127 with
          | true => some (.tuple #[.bool true, .int .i64 (.ofNat pos), .int .i32 (.ofNat c.toNat)], s.setObj A (.siter l (Nat.succ pos)))
          | false => none
        | none => match Nat.ble (len l 0) pos with
          | true => some (.tuple #[.bool false], s)
          | false => none
      | none => none
    | _ => none
  | .most least x y => match x.ev t, y.ev t with
    | .int k a, .int k' b => match decide (k = k') with
      | true => match (match least with | true => Int.ltF b a | false => Int.ltF a b) with
        | true => some (.int k b, s)
        | false => some (.int k a, s)
      | false => none
    | _, _ => none
  | _ => none

end Go.Ev
end

section
namespace Go.Ev
open Go _root_.Ev
set_option linter.unusedVariables false

def do_move (t : T Value) (s : St) (x : Opd) : Option (Value × St) :=
  some (x.ev t, s)

def do_pick (t : T Value) (s : St) (c : Opd) (a : Opd) (b : Opd) : Option (Value × St) :=
  match c.ev t with
    | .bool true => some (a.ev t, s)
    | .bool false => some (b.ev t, s)
    | _ => none

def do_alloc (t : T Value) (s : St) (e : TypeId) (cs : List Value) : Option (Value × St) :=
  match s.new (.row e 0 cs none none) with
    | (A, s') => some (ptrV A 0, s')

def do_box (t : T Value) (s : St) (e : TypeId) (x : Opd) : Option (Value × St) :=
  match s.new (.row e 0 (cellsOfV (x.ev t)) none none) with
    | (A, s') => some (ptrV A 0, s')

def do_build (t : T Value) (s : St) (cs : List Value) (ps : List (Nat × Nat × Opd)) : Option (Value × St) :=
  match fillF cs (partsV t ps) with
    | some r => some (.agg ⟨r⟩, s)
    | none => none

def do_buildSlice (t : T Value) (s : St) (e : TypeId) (z : Nat) (n : Nat) (cs : List Value) (ps : List (Nat × Opd)) : Option (Value × St) :=
  match fillF cs (partsS t z ps) with
    | some r => match s.new (.row e z r none none) with
      | (A, s') => some (.slice (some ⟨A, 0, none⟩) n n, s')
    | none => none

def do_load (t : T Value) (s : St) (a : Opd) : Option (Value × St) :=
  match addrOf (a.ev t) with
    | some (A, o) => match s.cellsOf A with
      | some cs => match nth cs o with
        | some v => some (v, s)
        | none => none
      | none => none
    | none => none

def do_loadN (t : T Value) (s : St) (n : Nat) (a : Opd) : Option (Value × St) :=
  match addrOf (a.ev t) with
    | some (A, o) => match s.cellsOf A with
      | some cs => match cut cs o n with
        | some r => some (.agg ⟨r⟩, s)
        | none => none
      | none => none
    | none => none

def do_store (t : T Value) (s : St) (n : Nat) (a : Opd) (x : Opd) : Option (Value × St) :=
  match addrOf (a.ev t) with
    | some (A, o) => match Nat.beq (len (cellsOfV (x.ev t)) 0) n with
      | true => match ones (cellsOfV (x.ev t)) with
        | true => match s.write A o (cellsOfV (x.ev t)) with
          | some s' => some (undefV, s')
          | none => none
        | false => none
      | false => none
    | none => none

def do_nilCheck (t : T Value) (s : St) (x : Opd) : Option (Value × St) :=
  match x.ev t with
    | .pointer (some a) => some (.pointer (some a), s)
    | .func (.func f) a b => some (.func (.func f) a b, s)
    | _ => none

def do_bin (t : T Value) (s : St) (op : BinOp) (x : Opd) (y : Opd) : Option (Value × St) :=
  match binF op (x.ev t) (y.ev t) with
    | some v => some (v, s)
    | none => none

def do_eqB (t : T Value) (s : St) (neg : Bool) (x : Opd) (y : Opd) : Option (Value × St) :=
  match x.ev t, y.ev t with
    | .bool a, .bool b => some (.bool (boolXor neg (match a with | true => b | false => boolXor true b)), s)
    | _, _ => none

def do_eqNil (t : T Value) (s : St) (nk : NK) (neg : Bool) (x : Opd) : Option (Value × St) :=
  match isNil nk (x.ev t) with
    | some b => some (.bool (boolXor neg b), s)
    | none => none

def do_eqFlat (t : T Value) (s : St) (kk : KK) (neg : Bool) (x : Opd) (y : Opd) : Option (Value × St) :=
  match flatEq kk (x.ev t) (y.ev t) with
    | some b => some (.bool (boolXor neg b), s)
    | none => none

def do_not (t : T Value) (s : St) (x : Opd) : Option (Value × St) :=
  match x.ev t with
    | .bool b => some (.bool (boolXor true b), s)
    | _ => none

def do_neg (t : T Value) (s : St) (x : Opd) : Option (Value × St) :=
  match x.ev t with
    | .int k n => some (mkInt k (0 - n), s)
    | _ => none

def do_conv (t : T Value) (s : St) (k : IntKind) (x : Opd) : Option (Value × St) :=
  match x.ev t with
    | .int _ n => some (mkInt k n, s)
    | _ => none

def do_runeStr (t : T Value) (s : St) (x : Opd) : Option (Value × St) :=
  match intN (x.ev t) with
    | some n => match Nat.ble n 127 with
      | true => some (strV [UInt8.ofNat n], s)
      | false => none
    | none => none

def do_str (t : T Value) (s : St) (x : Opd) : Option (Value × St) :=
  match x.ev t with
    | .string b => some (.string b, s)
    | _ => none

def do_bytesOf (t : T Value) (s : St) (e : TypeId) (x : Opd) : Option (Value × St) :=
  match x.ev t with
    | .string b => match s.new (.row e 1 (bytesV b.data.toList) none none) with
      | (A, s') => some (.slice (some ⟨A, 0, none⟩) (len b.data.toList 0) (len b.data.toList 0), s')
    | _ => none

def do_strOf (t : T Value) (s : St) (x : Opd) : Option (Value × St) :=
  match sliceCells s 1 (x.ev t) with
    | some cs => match unbytes cs with
      | some l => some (strV l, s)
      | none => none
    | none => none

def do_mkFunc (t : T Value) (s : St) (f : FuncId) (a : List Opd) (b : List Opd) : Option (Value × St) :=
  some (.func (.func f) ⟨evs t a⟩ ⟨evs t b⟩, s)

def do_mkMap (t : T Value) (s : St)  : Option (Value × St) :=
  match s.new (.map [] 0) with
    | (A, s') => some (.map (some A), s')

def do_mkSlice (t : T Value) (s : St) (e : TypeId) (bytes : Nat) (z : Nat) (zero : List Value) (n : Opd) (c : Opd) : Option (Value × St) :=
  match intN (n.ev t), intN (c.ev t) with
    | some n, some c => match Nat.ble n c with
      | true => match Nat.ble (c * bytes) 281474976710656 with
        | true => match Nat.ble c 281474976710656 with
          | true => match s.new (.row e z (zerosF zero c) none none) with
            | (A, s') => some (.slice (some ⟨A, 0, none⟩) n c, s')
          | false => none
        | false => none
      | false => none
    | _, _ => none

def do_sub (t : T Value) (s : St) (x : Opd) (lo : Option Opd) (hi : Option Opd) : Option (Value × St) :=
  match x.ev t with
    | .string b => match bounds (len b.data.toList 0) (len b.data.toList 0) (optEv t lo) (optEv t hi) with
      | some (l, h) => match cut b.data.toList l (h - l) with
        | some r => some (strV r, s)
        | none => none
      | none => none
    | _ => none

def do_slice (t : T Value) (s : St) (z : Nat) (x : Opd) (lo : Option Opd) (hi : Option Opd) : Option (Value × St) :=
  match x.ev t with
    | .slice base n cap => match bounds n cap (optEv t lo) (optEv t hi) with
      | some (l, h) => match base with
        | none => match cap with
          | 0 => some (.slice none 0 0, s)
          | _ => none
        | some ⟨A, o, none⟩ => match s.strideIs A z with
          | true => some (.slice (some ⟨A, o + l * z, none⟩) (h - l) (cap - l), s)
          | false => none
        | some ⟨_, _, some _⟩ => none
      | none => none
    | _ => none

def do_faddr (t : T Value) (s : St) (off : Nat) (x : Opd) : Option (Value × St) :=
  match addrOf (x.ev t) with
    | some (A, o) => some (ptrV A (o + off), s)
    | none => none

def do_field (t : T Value) (s : St) (off : Nat) (x : Opd) : Option (Value × St) :=
  match x.ev t with
    | .agg cs => match nth cs.toList off with
      | some v => some (v, s)
      | none => none
    | _ => none

def do_fieldN (t : T Value) (s : St) (off : Nat) (n : Nat) (x : Opd) : Option (Value × St) :=
  match x.ev t with
    | .agg cs => match cut cs.toList off n with
      | some r => some (.agg ⟨r⟩, s)
      | none => none
    | _ => none

def do_iaddr (t : T Value) (s : St) (z : Nat) (x : Opd) (i : Opd) : Option (Value × St) :=
  match x.ev t, intN (i.ev t) with
    | .slice (some ⟨A, o, none⟩) n _, some i => match Nat.ble (Nat.succ i) n with
      | true => some (ptrV A (o + i * z), s)
      | false => none
    | _, _ => none

def do_iaddrA (t : T Value) (s : St) (n : Nat) (z : Nat) (x : Opd) (i : Opd) : Option (Value × St) :=
  match addrOf (x.ev t), intN (i.ev t) with
    | some (A, o), some i => match Nat.ble (Nat.succ i) n with
      | true => some (ptrV A (o + i * z), s)
      | false => none
    | _, _ => none

def do_idxStr (t : T Value) (s : St) (x : Opd) (i : Opd) : Option (Value × St) :=
  match x.ev t, intN (i.ev t) with
    | .string b, some i => match nth b.data.toList i with
      | some c => some (.int .u8 (.ofNat c.toNat), s)
      | none => none
    | _, _ => none

def do_idxA (t : T Value) (s : St) (n : Nat) (x : Opd) (i : Opd) : Option (Value × St) :=
  match x.ev t, intN (i.ev t) with
    | .agg cs, some i => match Nat.ble (Nat.succ i) n with
      | true => match nth cs.toList i with
        | some v => some (v, s)
        | none => none
      | false => none
    | _, _ => none

def do_idxAN (t : T Value) (s : St) (n : Nat) (z : Nat) (x : Opd) (i : Opd) : Option (Value × St) :=
  match x.ev t, intN (i.ev t) with
    | .agg cs, some i => match Nat.ble (Nat.succ i) n with
      | true => match cut cs.toList (i * z) z with
        | some r => some (.agg ⟨r⟩, s)
        | none => none
      | false => none
    | _, _ => none

def do_lookup (t : T Value) (s : St) (flat : KK) (zero : Value) (ok : Bool) (m : Opd) (k : Opd) : Option (Value × St) :=
  match mapGet s flat (m.ev t) (k.ev t) with
    | some (some (_, v, _)) => match ok with
      | true => some (.tuple #[v, .bool true], s)
      | false => some (v, s)
    | some none => match ok with
      | true => some (.tuple #[zero, .bool false], s)
      | false => some (zero, s)
    | none => none

def do_mapSet (t : T Value) (s : St) (flat : KK) (m : Opd) (k : Opd) (v : Opd) : Option (Value × St) :=
  match mapSetF s flat (m.ev t) (k.ev t) (v.ev t) with
    | some s' => some (undefV, s')
    | none => none

def do_extract (t : T Value) (s : St) (i : Nat) (x : Opd) : Option (Value × St) :=
  match x.ev t with
    | .tuple vs => match nth vs.toList i with
      | some v => some (v, s)
      | none => none
    | _ => none

def do_lenStr (t : T Value) (s : St) (x : Opd) : Option (Value × St) :=
  match x.ev t with
    | .string b => some (.int .i64 (.ofNat (len b.data.toList 0)), s)
    | _ => none

def do_lenSl (t : T Value) (s : St) (x : Opd) : Option (Value × St) :=
  match x.ev t with
    | .slice _ n _ => some (.int .i64 (.ofNat n), s)
    | _ => none

def do_lenMap (t : T Value) (s : St) (x : Opd) : Option (Value × St) :=
  match x.ev t with
    | .map none => some (.int .i64 0, s)
    | .map (some A) => match s.mapOf A with
      | some (es, _) => some (.int .i64 (.ofNat (len es 0)), s)
      | none => none
    | _ => none

def do_lenC (t : T Value) (s : St) (n : Nat) : Option (Value × St) :=
  some (.int .i64 (.ofNat n), s)

def do_append (t : T Value) (s : St) (e : TypeId) (z : Nat) (bytes : Nat) (x : Opd) (y : Opd) : Option (Value × St) :=
  appendF s e z bytes (x.ev t) (y.ev t)

def do_copy (t : T Value) (s : St) (z : Nat) (x : Opd) (y : Opd) : Option (Value × St) :=
  match x.ev t, srcLen (y.ev t) with
    | .slice base n _, some k =>
      let m := minF k n
      match srcCells s z m (y.ev t) with
      | none => none
      | some new => match new with
        | [] => some (.int .i64 (.ofNat m), s)
        | _ => match base with
          | some ⟨A, o, none⟩ => match ones new with
            | true => match s.write A o new with
              | some s' => some (.int .i64 (.ofNat m), s')
              | none => none
            | false => none
          | _ => none
    | _, _ => none

def do_range (t : T Value) (s : St) (x : Opd) : Option (Value × St) :=
  match x.ev t with
    | .string b => match s.new (.siter b.data.toList 0) with
      | (A, s') => some (ptrV A 0, s')
    | _ => none

def do_next (t : T Value) (s : St) (x : Opd) : Option (Value × St) :=
  match x.ev t with
    | .pointer (some ⟨A, 0, none⟩) => match s.iterOf A with
      | some (l, pos) => match nth l pos with
        | some c => match Nat.ble c.toNat 127 with
          | true => some (.tuple #[.bool true, .int .i64 (.ofNat pos), .int .i32 (.ofNat c.toNat)], s.setObj A (.siter l (Nat.succ pos)))
          | false => none
        | none => match Nat.ble (len l 0) pos with
          | true => some (.tuple #[.bool false], s)
          | false => none
      | none => none
    | _ => none

def do_most (t : T Value) (s : St) (least : Bool) (x : Opd) (y : Opd) : Option (Value × St) :=
  match x.ev t, y.ev t with
    | .int k a, .int k' b => match decide (k = k') with
      | true => match (match least with | true => Int.ltF b a | false => Int.ltF a b) with
        | true => some (.int k b, s)
        | false => some (.int k a, s)
      | false => none
    | _, _ => none

def doOpF (t : T Value) (s : St) (o : COp) : Option (Value × St) :=
  match o with
  | .move x => do_move t s x
  | .pick c a b => do_pick t s c a b
  | .alloc e cs => do_alloc t s e cs
  | .box e x => do_box t s e x
  | .build cs ps => do_build t s cs ps
  | .buildSlice e z n cs ps => do_buildSlice t s e z n cs ps
  | .load a => do_load t s a
  | .loadN n a => do_loadN t s n a
  | .store n a x => do_store t s n a x
  | .nilCheck x => do_nilCheck t s x
  | .bin op x y => do_bin t s op x y
  | .eqB neg x y => do_eqB t s neg x y
  | .eqNil nk neg x => do_eqNil t s nk neg x
  | .eqFlat kk neg x y => do_eqFlat t s kk neg x y
  | .not x => do_not t s x
  | .neg x => do_neg t s x
  | .conv k x => do_conv t s k x
  | .runeStr x => do_runeStr t s x
  | .str x => do_str t s x
  | .bytesOf e x => do_bytesOf t s e x
  | .strOf x => do_strOf t s x
  | .mkFunc f a b => do_mkFunc t s f a b
  | .mkMap => do_mkMap t s
  | .mkSlice e bytes z zero n c => do_mkSlice t s e bytes z zero n c
  | .sub x lo hi => do_sub t s x lo hi
  | .slice z x lo hi => do_slice t s z x lo hi
  | .faddr off x => do_faddr t s off x
  | .field off x => do_field t s off x
  | .fieldN off n x => do_fieldN t s off n x
  | .iaddr z x i => do_iaddr t s z x i
  | .iaddrA n z x i => do_iaddrA t s n z x i
  | .idxStr x i => do_idxStr t s x i
  | .idxA n x i => do_idxA t s n x i
  | .idxAN n z x i => do_idxAN t s n z x i
  | .lookup flat zero ok m k => do_lookup t s flat zero ok m k
  | .mapSet flat m k v => do_mapSet t s flat m k v
  | .extract i x => do_extract t s i x
  | .lenStr x => do_lenStr t s x
  | .lenSl x => do_lenSl t s x
  | .lenMap x => do_lenMap t s x
  | .lenC n => do_lenC t s n
  | .append e z bytes x y => do_append t s e z bytes x y
  | .copy z x y => do_copy t s z x y
  | .range x => do_range t s x
  | .next x => do_next t s x
  | .most least x y => do_most t s least x y
  | _ => none

abbrev CallF := FuncId → List Value → St → Option (Value × St)

def do_callv (call : CallF) (t : T Value) (s : St) (x : Opd) (args : List Opd) : Option (Value × St) :=
  match x.ev t with
  | .func (.func f) a b => call f (app a.toList (app (evs t args) b.toList)) s
  | _ => none

def stepOpF (call : CallF) (t : T Value) (s : St) (o : COp) : Option (Value × St) :=
  match o with
  | .call f args => call f (evs t args) s
  | .callv x args => do_callv call t s x args
  | .move x => do_move t s x
  | .pick c a b => do_pick t s c a b
  | .alloc e cs => do_alloc t s e cs
  | .box e x => do_box t s e x
  | .build cs ps => do_build t s cs ps
  | .buildSlice e z n cs ps => do_buildSlice t s e z n cs ps
  | .load a => do_load t s a
  | .loadN n a => do_loadN t s n a
  | .store n a x => do_store t s n a x
  | .nilCheck x => do_nilCheck t s x
  | .bin op x y => do_bin t s op x y
  | .eqB neg x y => do_eqB t s neg x y
  | .eqNil nk neg x => do_eqNil t s nk neg x
  | .eqFlat kk neg x y => do_eqFlat t s kk neg x y
  | .not x => do_not t s x
  | .neg x => do_neg t s x
  | .conv k x => do_conv t s k x
  | .runeStr x => do_runeStr t s x
  | .str x => do_str t s x
  | .bytesOf e x => do_bytesOf t s e x
  | .strOf x => do_strOf t s x
  | .mkFunc f a b => do_mkFunc t s f a b
  | .mkMap => do_mkMap t s
  | .mkSlice e bytes z zero n c => do_mkSlice t s e bytes z zero n c
  | .sub x lo hi => do_sub t s x lo hi
  | .slice z x lo hi => do_slice t s z x lo hi
  | .faddr off x => do_faddr t s off x
  | .field off x => do_field t s off x
  | .fieldN off n x => do_fieldN t s off n x
  | .iaddr z x i => do_iaddr t s z x i
  | .iaddrA n z x i => do_iaddrA t s n z x i
  | .idxStr x i => do_idxStr t s x i
  | .idxA n x i => do_idxA t s n x i
  | .idxAN n z x i => do_idxAN t s n z x i
  | .lookup flat zero ok m k => do_lookup t s flat zero ok m k
  | .mapSet flat m k v => do_mapSet t s flat m k v
  | .extract i x => do_extract t s i x
  | .lenStr x => do_lenStr t s x
  | .lenSl x => do_lenSl t s x
  | .lenMap x => do_lenMap t s x
  | .lenC n => do_lenC t s n
  | .append e z bytes x y => do_append t s e z bytes x y
  | .copy z x y => do_copy t s z x y
  | .range x => do_range t s x
  | .next x => do_next t s x
  | .most least x y => do_most t s least x y
  | _ => none

theorem doOpF_eq (t : T Value) (s : St) (o : COp) : doOpF t s o = doOp t s o := by
  cases o <;> rfl

end Go.Ev
end

section
namespace Go.Ev
open Go _root_.Ev

/-! ### regions, code -/

def forceT {α β : Type} (t : T α) (k : T α → β) : β :=
  match t with
  | .nil => k .nil
  | .node l v r => k (.node l v r)

def forceN {β : Type} (n : Nat) (k : Nat → β) : β :=
  match n with
  | 0 => k 0
  | m + 1 => k (Nat.succ m)

def forceV {β : Type} (v : Value) (k : Value → β) : β :=
  match v with
  | .bool b => match b with
    | true => k (.bool true)
    | false => k (.bool false)
  | .int kd n => match n with
    | .ofNat m => forceN m fun m => k (.int kd (.ofNat m))
    | .negSucc m => forceN m fun m => k (.int kd (.negSucc m))
  | .string b => k (.string b)
  | .pointer a => match a with
    | none => k (.pointer none)
    | some ⟨A, o, x⟩ => forceN A fun A => forceN o fun o => k (.pointer (some ⟨A, o, x⟩))
  | .slice a n c => match a with
    | none => forceN n fun n => forceN c fun c => k (.slice none n c)
    | some ⟨A, o, x⟩ => forceN A fun A => forceN o fun o => forceN n fun n => forceN c fun c => k (.slice (some ⟨A, o, x⟩) n c)
  | .map r => match r with
    | none => k (.map none)
    | some A => forceN A fun A => k (.map (some A))
  | .func a b c => k (.func a b c)
  | .agg cs => k (.agg cs)
  | .tuple vs => k (.tuple vs)
  | v => k v

def forceS {β : Type} (s : St) (k : St → β) : β :=
  match s with
  | .mk h nx ep => forceT h fun h => forceN nx fun nx => forceT ep fun ep => k (.mk h nx ep)

def put (t : T Value) (d : Option Nat) (v : Value) : T Value :=
  match d with
  | some d => t.set d v
  | none => t

def wanted (t : T Value) : Option (Nat × Bool) → Bool
  | none => true
  | some (j, w) => match t.get j with
    | some (.bool b) => match w with
      | true => b
      | false => boolXor true b
    | _ => false


def stepOp (call : CallF) (t : T Value) (s : St) (o : COp) : Option (Value × St) :=
  match o with
  | .call f args => call f (evs t args) s
  | .callv x args => match x.ev t with
    | .func (.func f) a b => call f (app a.toList (app (evs t args) b.toList)) s
    | _ => none
  | o => doOp t s o

def runOps (call : CallF) : List CE → T Value → St → Option (T Value × St)
  | [], t, s => some (t, s)
  | e :: r, t, s => match wanted t e.guard with
    | true => match stepOpF call t s e.op with
      | some (v, s') => forceV v fun v => forceT (put t e.dst v) fun t' => forceS s' fun s' => runOps call r t' s'
      | none => none
    | false => forceT (put t e.dst undefV) fun t' => runOps call r t' s

/-- What an operation is: it only computes; it reads memory; it makes memory; it does more. -/
inductive Cls where
  | pure
  | read
  | make
  | eff

def COp.cls : COp → Cls
  | .load _ | .loadN .. | .strOf _ | .lookup .. | .lenMap _ | .slice .. => .read
  | .alloc .. | .box .. | .buildSlice .. | .mkMap | .mkSlice .. | .bytesOf .. | .range _ => .make
  | .store .. | .mapSet .. | .mapEntry .. | .entryStore .. | .call .. | .callv .. | .append .. | .copy .. | .delete .. | .next _ | .bad => .eff
  | _ => .pure

def veq1 : Value → Value → Bool
  | .bool a, .bool b => match a with
    | true => b
    | false => boolXor true b
  | .int k a, .int k' b => match decide (k = k') with
    | true => Int.beqF a b
    | false => false
  | .string a, .string b => beqBytes a.data.toList b.data.toList
  | .pointer none, .pointer none => true
  | .pointer (some ⟨A, o, none⟩), .pointer (some ⟨B, p, none⟩) => match Nat.beq A B with
    | true => Nat.beq o p
    | false => false
  | .slice none n c, .slice none m d => match Nat.beq n m with
    | true => Nat.beq c d
    | false => false
  | .slice (some ⟨A, o, none⟩) n c, .slice (some ⟨B, p, none⟩) m d => match Nat.beq A B with
    | true => match Nat.beq o p with
      | true => match Nat.beq n m with
        | true => Nat.beq c d
        | false => false
      | false => false
    | false => false
  | .map none, .map none => true
  | .map (some A), .map (some B) => Nat.beq A B
  | .nilFunc, .nilFunc => true
  | .nilIface, .nilIface => true
  | _, _ => false

def veqs1 : List Value → List Value → Bool
  | [], [] => true
  | x :: xs, y :: ys => match veq1 x y with
    | true => veqs1 xs ys
    | false => false
  | _, _ => false

def veq (x y : Value) : Bool :=
  match x with
  | .agg a => match y with
    | .agg b => veqs1 a.toList b.toList
    | _ => false
  | .tuple a => match y with
    | .tuple b => veqs1 a.toList b.toList
    | _ => false
  | .func (.func f) a b => match y with
    | .func (.func g) c d => match Nat.beq f g with
      | true => match veqs1 a.toList c.toList with
        | true => veqs1 b.toList d.toList
        | false => false
      | false => false
    | _ => false
  | x => veq1 x y

def veqs : List Value → List Value → Bool
  | [], [] => true
  | x :: xs, y :: ys => match veq x y with
    | true => veqs xs ys
    | false => false
  | _, _ => false

def optBeq : Option Nat → Option Nat → Bool
  | none, none => true
  | some a, some b => Nat.beq a b
  | _, _ => false

def objEq : AObj → AObj → Bool
  | .row e z cs g o, .row e' z' cs' g' o' => match Nat.beq e e' with
    | true => match Nat.beq z z' with
      | true => match optBeq g g' with
        | true => match optBeq o o' with
          | true => veqs cs cs'
          | false => false
        | false => false
      | false => false
    | false => false
  | .map [] c, .map [] c' => Nat.beq c c'
  | .siter l p, .siter l' p' => match beqBytes l l' with
    | true => Nat.beq p p'
    | false => false
  | _, _ => false

/-- An operation of a region that may still come up later: a read with its value, or a piece of memory that was made. -/
inductive Open where
  | read (t : T Value) (o : COp) (v : Value) (hi : Nat)
  | make (A : Nat) (o : AObj) (hi : Nat)

/-- Behind 'k' effects: would it come to the same? -/
def Open.holds (s : St) (k : Nat) : Open → Bool
  | .read t o v hi => match Nat.ble k hi with
    | false => true
    | true => match doOpF t s o with
      | some (v', _) => veq v v'
      | none => false
  | .make A o hi => match Nat.ble k hi with
    | false => true
    | true => match s with
      | .mk h _ _ => match h.get A with
        | some o' => objEq o o'
        | none => false

def holdAll (s : St) (k : Nat) : List Open → Bool
  | [] => true
  | x :: xs => match x.holds s k with
    | true => holdAll s k xs
    | false => false

def St.obj (s : St) (A : Nat) : Option AObj :=
  match s with
  | .mk h _ _ => h.get A

def St.nextId (s : St) : Nat :=
  match s with
  | .mk _ nx _ => nx

/-- A region that draws, in its eager order: 'k' effects have been. -/
def runDraw (call : CallF) : List (CE × Nat) → Nat → List Open → T Value → St → Option (T Value × St)
  | [], _, _, t, s => some (t, s)
  | (e, hi) :: r, k, opens, t, s => match wanted t e.guard with
    | true => match stepOpF call t s e.op with
      | none => none
      | some (v, s') => forceV v fun v => forceT (put t e.dst v) fun t' => forceS s' fun s' =>
        match e.op.cls with
        | .pure => runDraw call r k opens t' s'
        | .read => runDraw call r k (.read t e.op v hi :: opens) t' s'
        | .make => match s'.obj s.nextId with
          | some o => match holdAll s' k opens with
            | true => runDraw call r k (.make s.nextId o hi :: opens) t' s'
            | false => none
          | none => none
        | .eff => match holdAll s' (Nat.succ k) opens with
          | true => runDraw call r (Nat.succ k) opens t' s'
          | false => none
    | false => match e.op.cls with
      | .eff => forceT (put t e.dst undefV) fun t' => runDraw call r (Nat.succ k) opens t' s
      | _ => forceT (put t e.dst undefV) fun t' => runDraw call r k opens t' s

inductive Ex where
  | normal
  | exit (id : Nat)
  | ret

def initT : List Value → Nat → T Value → T Value
  | [], _, t => t
  | v :: r, i, t => initT r (Nat.succ i) (t.set i v)

def resF (t : T Value) (s : St) : List CRes → Option (List Value)
  | [] => some []
  | r :: rs => match (match r with
      | .tmp n => some (Opd.ev t (.t n))
      | .cell a => match addrOf (Opd.ev t (.t a)) with
        | some (A, o) => match s.cellsOf A with
          | some cs => nth cs o
          | none => none
        | none => none
      | .cells n a => match addrOf (Opd.ev t (.t a)) with
        | some (A, o) => match s.cellsOf A with
          | some cs => match cut cs o n with
            | some r => some (.agg ⟨r⟩)
            | none => none
          | none => none
        | none => none) with
    | none => none
    | some v => match resF t s rs with
      | some vs => some (v :: vs)
      | none => none

def retV : List Value → Value
  | [v] => v
  | vs => .tuple ⟨vs⟩

/-- A function without temporaries takes no arguments. -/
def okArgs (nt : Nat) (args : List Value) : Bool := match nt with
  | 0 => match args with
    | [] => true
    | _ :: _ => false
  | _ + 1 => true

/-- In place of a function that says true. -/
def trueFn : CFunc := ⟨0, [.tmp 0], .reg [⟨some 0, .move (.c (.bool true)), none⟩]⟩

def callWith (prog : Nat → Option CFunc) (code : CCode → T Value → St → Option (Ex × T Value × St)) : CallF :=
  fun f args s => match prog f with
    | some fn => match okArgs fn.ntmps args with
      | false => none
      | true => match code fn.body (initT args 0 .nil) s with
        | some (.normal, t, s') => match resF t s' fn.res with
          | some vs => some (retV vs, s')
          | none => none
        | some (.ret, t, s') => match resF t s' fn.res with
          | some vs => some (retV vs, s')
          | none => none
        | _ => none
    | none => none

def evCode (prog : Nat → Option CFunc) : Nat → CCode → T Value → St → Option (Ex × T Value × St)
  | 0, _, _, _ => none
  | n + 1, c, t, s => match c with
    | .skip => some (.normal, t, s)
    | .reg ops => match runOps (callWith prog (evCode prog n)) ops t s with
      | some (t', s') => some (.normal, t', s')
      | none => none
    | .draw ops => match runDraw (callWith prog (evCode prog n)) ops 0 [] t s with
      | some (t', s') => some (.normal, t', s')
      | none => none
    | .seq a b => match evCode prog n a t s with
      | some (.normal, t', s') => evCode prog n b t' s'
      | r => r
    | .cond x a b => match x.ev t with
      | .bool true => evCode prog n a t s
      | .bool false => evCode prog n b t s
      | _ => none
    | .block id a => match evCode prog n a t s with
      | some (.exit j, t', s') => match Nat.beq j id with
        | true => some (.normal, t', s')
        | false => some (.exit j, t', s')
      | r => r
    | .loop a => match evCode prog n a t s with
      | some (.normal, t', s') => evCode prog n (.loop a) t' s'
      | r => r
    | .exit id => some (.exit id, t, s)
    | .ret => some (.ret, t, s)

def evCall (prog : Nat → Option CFunc) (n : Nat) : CallF := callWith prog (evCode prog n)

end Go.Ev
end

section
namespace Go.Ev
open Go _root_.Ev

def plain1 : Value → Bool
  | .bool _ | .int .. | .string _ | .pointer none | .slice none 0 0 | .map none | .nilFunc | .nilIface => true
  | .func (.func _) a b => a.isEmpty && b.isEmpty
  | _ => false

def plainV : Value → Bool
  | .agg cs => cs.toList.all plain1
  | v => plain1 v

def cOpd : Operand → Option Opd
  | .tmp t => some (.t t)
  | .const v => if plainV v then some (.c v) else none
  | .global _ => none
  | .func f => some (.c (.func (.func f) #[] #[]))

def cOpds : List Operand → Option (List Opd)
  | [] => some []
  | x :: xs => match cOpd x, cOpds xs with
    | some y, some ys => some (y :: ys)
    | _, _ => none

def aggT (P : Program) (t : TypeId) : Option Bool :=
  match P.underlying t with
  | some (.struct _) => some true
  | some (.array _ _) => some true
  | some _ => some false
  | none => none

def sizeT (P : Program) (t : TypeId) : Option Nat := (P.info? t).map (·.size)
def bytesT (P : Program) (t : TypeId) : Option Nat := (P.info? t).map (·.bytes)

/-- The cells of a type's zero value, if they are plain. -/
def zeroT (P : Program) (t : TypeId) : Option Value :=
  match (P.info? t).bind (·.zero) with
  | some v => if plainV v then some v else none
  | none => none

def oneT (P : Program) (t : TypeId) : Option FK :=
  match P.underlying t with
  | some (.int _) => some .int
  | some .bool => some .bool
  | some .string => some .str
  | _ => none

def fieldsK (P : Program) : List Field → Nat → Option (List FK)
  | [], _ => some []
  | f :: fs, i => match oneT P f.type, fieldsK P fs (i + 1) with
    | some k, some ks => if f.name ≠ "_" ∧ f.offset = i then some (k :: ks) else none
    | _, _ => none

/-- The cells of a type whose values are rows of whole numbers, bools and strings. -/
def flatT (P : Program) (t : TypeId) : Option (List FK) :=
  match P.underlying t with
  | some (.struct fs) => match P.stoodInHeld t with
    | true => none
    | false => fieldsK P fs.toList 0
  | some (.array n e) => match oneT P e, P.info? e with
    | some k, some i => if i.size = 1 then some (List.replicate n k) else none
    | _, _ => none
  | _ => none

def isNilC : NK → Operand → Bool
  | .ptr, .const (.pointer none) => true
  | .sl, .const (.slice none _ _) => true
  | .map, .const (.map none) => true
  | .fn, .const .nilFunc => true
  | _, _ => false

def nilT : TypeDesc → Option NK
  | .pointer _ => some .ptr
  | .slice _ => some .sl
  | .map _ _ => some .map
  | .func _ _ _ => some .fn
  | _ => none

def partsOf (place : Nat → Option (Nat × Nat)) : List (Nat × Operand) → Option (List (Nat × Nat × Opd))
  | [] => some []
  | (i, x) :: r => match place i, cOpd x, partsOf place r with
    | some (off, n), some y, some ys => some ((off, n, y) :: ys)
    | _, _, _ => none

def partsOfS : List (Nat × Operand) → Option (List (Nat × Opd))
  | [] => some []
  | (i, x) :: r => match cOpd x, partsOfS r with
    | some y, some ys => some ((i, y) :: ys)
    | _, _ => none

def placesOf (P : Program) : List Field → Option (List (Nat × Nat))
  | [] => some []
  | f :: fs => match sizeT P f.type, placesOf P fs with
    | some n, some r => some ((f.offset, n) :: r)
    | _, _ => none

def optOpd : Option Operand → Option (Option Opd)
  | none => some none
  | some x => match cOpd x with
    | some y => some (some y)
    | none => none

def cFlat (P : Program) (op : BinOp) (xt : TypeId) (a b : Opd) : Option COp :=
  match flatT P xt, P.eqGuardType P.depth xt with
  | some ks, false => match op with
    | .eql => some (.eqFlat (.row ks) false a b)
    | .neq => some (.eqFlat (.row ks) true a b)
    | _ => none
  | _, _ => none

def cNil (d : TypeDesc) (op : BinOp) (x y : Operand) (a b : Opd) : Option COp :=
  match nilT d with
  | none => none
  | some nk => match isNilC nk y with
    | true => match op with
      | .eql => some (.eqNil nk false a)
      | .neq => some (.eqNil nk true a)
      | _ => none
    | false => match isNilC nk x with
      | true => match op with
        | .eql => some (.eqNil nk false b)
        | .neq => some (.eqNil nk true b)
        | _ => none
      | false => none

def cBin (P : Program) (op : BinOp) (xt : TypeId) (x y : Operand) : Option COp := do
  let a ← cOpd x
  let b ← cOpd y
  match P.underlying xt with
  | some (.int _) => some (.bin op a b)
  | some .string => some (.bin op a b)
  | some .bool => match op with
    | .eql => some (.eqB false a b)
    | .neq => some (.eqB true a b)
    | _ => none
  | some (.struct _) | some (.array _ _) =>
    cFlat P op xt a b
  | some d => cNil d op x y a b
  | none => none

/-- The kind of a map's keys. -/
def keyT (P : Program) (k : TypeId) : Option KK :=
  match oneT P k with
  | some fk => some (.one fk)
  | none => match flatT P k with
    | some ks => some (.row ks)
    | none => none

def cAppend (P : Program) (e : TypeId) (a b : Opd) : Option COp := do
  let z ← sizeT P e
  let n ← bytesT P e
  let v ← zeroT P e
  if (cellsOfV v).length = z then some (.append e z n a b) else none

def cBuiltin (P : Program) (b : Builtin) (args : List Operand) (types : List TypeId) : Option COp :=
  match b, args, types with
  | .len, [x], [t] => do
    let a ← cOpd x
    match P.underlying t with
    | some .string => some (.lenStr a)
    | some (.slice _) => some (.lenSl a)
    | some (.map _ _) => some (.lenMap a)
    | some (.array n _) => some (.lenC n)
    | some (.pointer e) => match P.underlying e with
      | some (.array n _) => some (.lenC n)
      | _ => none
    | _ => none
  | .append, [x, y], [t, u] => do
    let a ← cOpd x
    let b ← cOpd y
    match P.underlying t, P.underlying u with
    | some (.slice e), some (.slice _) => cAppend P e a b
    | some (.slice e), some .string => cAppend P e a b
    | _, _ => none
  | .copy, [x, y], [t, _] => do
    let a ← cOpd x
    let b ← cOpd y
    match P.underlying t with
    | some (.slice e) => do
      let z ← sizeT P e
      some (.copy z a b)
    | _ => none
  | .max, [x, y], _ => do
    let a ← cOpd x
    let b ← cOpd y
    some (.most false a b)
  | .min, [x, y], _ => do
    let a ← cOpd x
    let b ← cOpd y
    some (.most true a b)
  | _, _, _ => none

def cMapSet (P : Program) (t : TypeId) (m k v : Operand) : Option COp := do
  match P.underlying t with
  | some (.map kt _) => some (.mapSet (← keyT P kt) (← cOpd m) (← cOpd k) (← cOpd v))
  | _ => none

def cOp (P : Program) (o : Oper) : Option COp :=
  match o.op with
  | .move x | .assign x => do some (.move (← cOpd x))
  | .pick c a b => do some (.pick (← cOpd c) (← cOpd a) (← cOpd b))
  | .alloc e => do some (.alloc e (cellsOfV (← zeroT P e)))
  | .box e x => do some (.box e (← cOpd x))
  | .build t parts => do
    let z ← zeroT P t
    match P.underlying t with
    | some (.struct fs) => do
      let pl ← placesOf P fs.toList
      some (.build (cellsOfV z) (← partsOf (fun i => pl[i]?) parts.toList))
    | some (.array _ e) => do
      let n ← sizeT P e
      some (.build (cellsOfV z) (← partsOf (fun i => some (i * n, n)) parts.toList))
    | _ => none
  | .buildSlice t n parts => do
    match P.underlying t with
    | some (.slice e) => do
      let z ← sizeT P e
      let zero ← zeroT P e
      if n * z > 4096 ∨ (cellsOfV zero).length ≠ z then none else
      some (.buildSlice e z n (zerosF (cellsOfV zero) n) (← partsOfS parts.toList))
    | _ => none
  | .load t a => do
    match ← aggT P t with
    | true => some (.loadN (← sizeT P t) (← cOpd a))
    | false => some (.load (← cOpd a))
  | .store t a x => do some (.store (← sizeT P t) (← cOpd a) (← cOpd x))
  | .nilCheck x => do some (.nilCheck (← cOpd x))
  | .binOp op xt x y _ => cBin P op xt x y
  | .unOp op _ x => do
    match op with
    | .not => some (.not (← cOpd x))
    | .neg => some (.neg (← cOpd x))
    | _ => none
  | .convert src dst x => do
    let a ← cOpd x
    match P.underlying src, P.underlying dst with
    | some (.int _), some (.int k) => some (.conv k a)
    | some (.int _), some .string => some (.runeStr a)
    | some .string, some .string => some (.str a)
    | some (.slice e), some .string => match P.underlying e with
      | some (.int .u8) => some (.strOf a)
      | _ => none
    | some .string, some (.slice e) => match P.underlying e with
      | some (.int .u8) => some (.bytesOf e a)
      | _ => none
    | _, _ => none
  | .makeFunc fn first captured => do
    match fn with
    | .func f => some (.mkFunc f (← cOpds first.toList) (← cOpds captured.toList))
    | _ => none
  | .makeMap t r => do
    match P.underlying t, r with
    | some (.map _ _), none => some .mkMap
    | some (.map _ _), some (.const (.int _ _)) => some .mkMap
    | _, _ => none
  | .makeSlice t l c => do
    match P.underlying t with
    | some (.slice e) => do
      let z ← sizeT P e
      let b ← bytesT P e
      let zero ← zeroT P e
      if (cellsOfV zero).length ≠ z then none else
      some (.mkSlice e b z (cellsOfV zero) (← cOpd l) (← cOpd c))
    | _ => none
  | .slice t x lo hi mx => do
    match mx with
    | some _ => none
    | none => match P.underlying t with
      | some .string => some (.sub (← cOpd x) (← optOpd lo) (← optOpd hi))
      | some (.slice e) => some (.slice (← sizeT P e) (← cOpd x) (← optOpd lo) (← optOpd hi))
      | _ => none
  | .fieldAddr s x f => do
    match P.underlying s with
    | some (.struct fs) => match fs[f]? with
      | some fd => do
        let n ← sizeT P fd.type
        if n = 0 then none else some (.faddr fd.offset (← cOpd x))
      | none => none
    | _ => none
  | .field s x f => do
    match P.underlying s with
    | some (.struct fs) => match fs[f]? with
      | some fd => do
        match ← aggT P fd.type with
        | true => some (.fieldN fd.offset (← sizeT P fd.type) (← cOpd x))
        | false => some (.field fd.offset (← cOpd x))
      | none => none
    | _ => none
  | .indexAddr t x i => do
    match P.underlying t with
    | some (.slice e) => some (.iaddr (← sizeT P e) (← cOpd x) (← cOpd i))
    | some (.array n e) => some (.iaddrA n (← sizeT P e) (← cOpd x) (← cOpd i))
    | _ => none
  | .index t x i => do
    match P.underlying t with
    | some .string => some (.idxStr (← cOpd x) (← cOpd i))
    | some (.array n e) => do
      match ← aggT P e with
      | true => some (.idxAN n (← sizeT P e) (← cOpd x) (← cOpd i))
      | false => match ← sizeT P e with
        | 1 => some (.idxA n (← cOpd x) (← cOpd i))
        | _ => none
    | _ => none
  | .lookup t x i ok => do
    match P.underlying t with
    | some (.map k e) => some (.lookup (← keyT P k) (← zeroT P e) ok (← cOpd x) (← cOpd i))
    | _ => none
  | .mapUpdate t m k v => cMapSet P t m k v
  | .insert t m k v => cMapSet P t m k v
  | .range t x => do
    match P.underlying t with
    | some .string => some (.range (← cOpd x))
    | _ => none
  | .next x true => do some (.next (← cOpd x))
  | .extract x i => do some (.extract i (← cOpd x))
  | .call c => do
    match c.callee with
    | .value (.func f) => some (.call f (← cOpds c.args.toList))
    | .value (.tmp t) => some (.callv (.t t) (← cOpds c.args.toList))
    | .builtin b => cBuiltin P b c.args.toList c.argTypes.toList
    | _ => none
  | _ => none

def cOper (P : Program) (ops : Array Oper) (o : Oper) : CE :=
  match (match o.guard with
    | none => some none
    | some (j, w) => match (ops[j]?).bind (·.dst) with
      | some d => some (some (d, w))
      | none => none) with
  | none => { dst := o.dst, op := .bad, guard := none }
  | some g => { dst := o.dst, op := (cOp P o).getD .bad, guard := g }

/-! ### regions that draw -/

def Opd.tmp : Opd → List Nat
  | .t n => [n]
  | .c _ => []

def optTmp : Option Opd → List Nat
  | some x => x.tmp
  | none => []

/-- The temporaries that an operation looks at. -/
def COp.tmps : COp → List Nat
  | .move x | .box _ x | .load x | .loadN _ x | .nilCheck x | .eqNil _ _ x | .not x | .neg x | .conv _ x | .runeStr x | .str x | .bytesOf _ x | .strOf x => x.tmp
  | .faddr _ x | .field _ x | .fieldN _ _ x | .extract _ x | .lenStr x | .lenSl x | .lenMap x | .range x | .next x => x.tmp
  | .pick c a b => c.tmp ++ (a.tmp ++ b.tmp)
  | .alloc .. | .mkMap | .lenC _ | .bad => []
  | .build _ ps => ps.flatMap fun p => p.2.2.tmp
  | .buildSlice _ _ _ _ ps => ps.flatMap fun p => p.2.tmp
  | .store _ x y | .bin _ x y | .eqB _ x y | .eqFlat _ _ x y | .iaddr _ x y | .iaddrA _ _ x y | .idxStr x y | .idxA _ x y | .idxAN _ _ x y => x.tmp ++ y.tmp
  | .mkFunc _ a b => a.flatMap Opd.tmp ++ b.flatMap Opd.tmp
  | .mkSlice _ _ _ _ x y | .lookup _ _ _ x y | .mapEntry _ _ x y | .append _ _ _ x y | .copy _ x y | .delete _ x y | .most _ x y => x.tmp ++ y.tmp
  | .sub x lo hi | .slice _ x lo hi => x.tmp ++ (optTmp lo ++ optTmp hi)
  | .mapSet _ m k v => m.tmp ++ (k.tmp ++ v.tmp)
  | .entryStore m s v => m.tmp ++ (s.tmp ++ v.tmp)
  | .call _ args => args.flatMap Opd.tmp
  | .callv x args => x.tmp ++ args.flatMap Opd.tmp

/-- The direct ones that an operation waits for. -/
def waitsFor (o : Oper) : Nat := o.after.toList.foldl (fun s e => if Region.binds .any e then s ||| 2 ^ e.on else s) 0

def isEff (c : CE) : Bool := match c.op.cls with
  | .eff => true
  | _ => false

/-- All bits of 'a' are bits of 'b'. -/
def subB (a b : Nat) : Bool := Nat.beq (a &&& b) a

def firstOf (p : Nat → Bool) : List Nat → Option Nat
  | [] => none
  | i :: r => if p i then some i else firstOf p r

/-- The eager order: what is no effect comes as early as it may. -/
def eager (ws : List Nat) (effs : List Bool) (n : Nat) : Nat → Nat → List Nat
  | 0, _ => []
  | fuel + 1, done =>
    let free (i : Nat) : Bool := !done.testBit i && subB (ws.getD i 0) done
    match firstOf (fun i => free i && !(effs.getD i true)) (List.range n) with
    | some i => i :: eager ws effs n fuel (done ||| 2 ^ i)
    | none => match firstOf free (List.range n) with
      | some i => i :: eager ws effs n fuel (done ||| 2 ^ i)
      | none => []

def latest (b : List Nat) (i : Nat) : List Nat → Nat → Nat
  | [], k => k
  | e :: r, k => if (b.getD e 0).testBit i then k else latest b i r (k + 1)

/-- What is known of a region that draws: the code; the direct ones waited for; all waited for; the temporaries looked at; the latest. -/
structure DR where
  n : Nat
  cs : List CE
  ws : List Nat
  bs : List Nat
  ls : List (List Nat)
  es : List Nat

def DR.c (d : DR) (i : Nat) : CE := d.cs.getD i { dst := none, op := .bad, guard := none }
def DR.w (d : DR) (i : Nat) : Nat := d.ws.getD i 0
def DR.b (d : DR) (i : Nat) : Nat := d.bs.getD i 0
def DR.l (d : DR) (i : Nat) : List Nat := d.ls.getD i []
def DR.eff (d : DR) (i : Nat) : Bool := isEff (d.c i)
def DR.lat (d : DR) (i : Nat) : Nat := latest d.bs i d.es 0

def DR.pairOk (d : DR) (i j : Nat) : Bool :=
  match (d.c i).dst with
  | none => true
  | some t => Nat.beq i j || (decide ((d.c j).dst ≠ some t) && (!(d.l j).contains t || (d.b j).testBit i || (d.b i).testBit j))

/-- What is waited for in the end comes by what is waited for. -/
def DR.bOk (d : DR) (i : Nat) : Bool :=
  subB (d.b i) ((List.range d.n).foldl (fun s q => if (d.w i).testBit q then s ||| d.b q else s) (d.w i))

def DR.orderOk (d : DR) : List Nat → Nat → Nat → Bool
  | [], done, _ => (List.range d.n).all done.testBit
  | i :: r, done, k => Nat.blt i d.n && !done.testBit i && subB (d.w i) done && subB (d.b i) done &&
    (match d.eff i with
      | true => (List.range d.n).all (fun j => Nat.beq j i || done.testBit j || !subB (d.w j) done) &&
          (List.range d.n).all (fun j => !done.testBit j || d.eff j || !Nat.beq (d.lat j) k || (d.b i).testBit j)
      | false => Nat.ble k (d.lat i)) &&
    DR.orderOk d r (done ||| 2 ^ i) (if d.eff i then k + 1 else k)

def DR.ok (d : DR) (ord : List Nat) : Bool :=
  (List.range d.n).all (fun i => (d.c i).op.tmps.all (d.l i).contains && d.bOk i && (List.range d.n).all (d.pairOk i)) && d.orderOk ord 0 0

def drOf (P : Program) (ops : Array Oper) : DR × List Nat :=
  let n := ops.size
  let cs := ops.toList.map (cOper P ops)
  let ws := ops.toList.map waitsFor
  let effs := cs.map isEff
  let ord := eager ws effs n n 0
  ({ n := n, cs := cs, ws := ws, bs := (Region.before ops).toList, ls := ops.toList.map (Oper.looksAt ops), es := ord.filter fun i => effs.getD i true }, ord)

def cDraw (P : Program) (ops : Array Oper) : Option (List (CE × Nat)) :=
  match drOf P ops with
  | (d, ord) => match d.ok ord with
    | true => some (ord.map fun i => (d.c i, d.lat i))
    | false => none

/-- All that is written has its place. -/
def dstOk (n : Nat) (ops : Array Oper) : Bool := ops.toList.all fun o => match o.dst with
  | some d => Nat.blt d n
  | none => true

def badReg : CCode := .reg [{ dst := none, op := .bad, guard := none }]

def cRegion (P : Program) (n : Nat) (ops : Array Oper) (draw : Bool) : CCode :=
  match dstOk n ops with
  | false => badReg
  | true => match draw with
    | false => .reg (ops.toList.map (cOper P ops))
    | true => match cDraw P ops with
      | some l => .draw l
      | none => badReg

def cCode (P : Program) (n : Nat) : Code → CCode
  | .skip => .skip
  | .region _ ops draw => cRegion P n ops draw
  | .seq a b => .seq (cCode P n a) (cCode P n b)
  | .cond c a b => match cOpd c with
    | some x => .cond x (cCode P n a) (cCode P n b)
    | none => badReg
  | .block id a => .block id (cCode P n a)
  | .loop a => .loop (cCode P n a)
  | .exit id => .exit id
  | .label _ => .skip
  | .ret => .ret
  | _ => badReg

def cRes (P : Program) : List ResultVar → Option (List CRes)
  | [] => some []
  | r :: rs => do
    let y ← match r with
      | .tmp t => some (CRes.tmp t)
      | .cell a t => do
        match ← aggT P t with
        | true => some (CRes.cells (← sizeT P t) a)
        | false => some (CRes.cell a)
    some (y :: (← cRes P rs))

def cFunc (P : Program) (fn : Func) : Option CFunc := do
  let body ← fn.body
  some { ntmps := fn.ntmps, res := ← cRes P fn.results.toList, body := cCode P fn.ntmps body }

end Go.Ev
end
