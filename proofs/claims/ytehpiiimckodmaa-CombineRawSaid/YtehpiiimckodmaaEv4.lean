/- The evaluator by recursors, and that it says the same. -/
import Derived.Test.YtehpiiimckodmaaEv0
import Derived.Test.YtehpiiimckodmaaEv3
set_option linter.unusedVariables false
set_option linter.unusedSimpArgs false
section
namespace Go.Ev
open Go _root_.Ev
set_option linter.unusedVariables false

def evTrueQ : Option (Value × St) → Bool
  | some (.bool b, _) => b
  | _ => false

noncomputable section

def frcQ {α β : Type} (t : T α) (k : T α → β) : β := T.rec (motive := fun _ => β) (k .nil) (fun l v r _ _ => k (.node l v r)) t

theorem frcQ_eq {α β : Type} (t : T α) (k : T α → β) : frcQ t k = k t := by cases t <;> rfl

def getQ {α : Type} (t : T α) : Nat → Option α :=
  T.rec (motive := fun _ => Nat → Option α) (fun _ => none)
    (fun _ v _ gl gr k => Nat.rec (motive := fun _ => Option α) v (fun k _ => Nat.rec (motive := fun _ => Option α) (gl (Nat.div k 2)) (fun _ _ => gr (Nat.div k 2)) (Nat.mod k 2)) k) t

theorem getQ_eq {α : Type} : ∀ (t : T α) (k : Nat), getQ t k = t.get k
  | .nil, k => rfl
  | .node l v r, 0 => rfl
  | .node l v r, k + 1 => by
    simp only [T.get]
    rw [← getQ_eq l, ← getQ_eq r]
    show Nat.rec (motive := fun _ => Option α) (getQ l (k / 2)) (fun _ _ => getQ r (k / 2)) (k % 2) = _
    rcases Nat.mod_two_eq_zero_or_one k with h | h <;> rw [h] <;> rfl

/-- The key's way down: a fresh branch. -/
def setQ {α : Type} (x : α) (t : T α) : Nat → T α :=
  T.rec (motive := fun _ => Nat → T α) (fun k => T.setF (Nat.succ k) .nil k x)
    (fun l v r sl sr k => Nat.rec (motive := fun _ => T α) (.node l (some x) r) (fun k _ => Nat.rec (motive := fun _ => T α) (frcQ (sl (Nat.div k 2)) fun y => .node y v r) (fun _ _ => frcQ (sr (Nat.div k 2)) fun y => .node l v y) (Nat.mod k 2)) k) t

theorem setF_fuel {α : Type} (x : α) : ∀ (f g : Nat) (t : T α) (k : Nat), k < f → k < g → T.setF f t k x = T.setF g t k x := by
  intro f
  induction f with
  | zero => intro g t k h; omega
  | succ f ih =>
    intro g t k hf hg
    obtain ⟨g, rfl⟩ : ∃ m, g = m + 1 := ⟨g - 1, by omega⟩
    cases t <;> cases k with
    | zero => rfl
    | succ k =>
      simp only [T.setF, T.frc_eq]
      rcases Nat.mod_two_eq_zero_or_one k with h | h <;> simp only [h] <;> rw [ih g _ (k / 2) (by omega) (by omega)]

theorem setQ_eq {α : Type} (x : α) : ∀ (t : T α) (k : Nat), setQ x t k = t.set k x
  | .nil, k => rfl
  | .node l v r, 0 => rfl
  | .node l v r, k + 1 => by
    show Nat.rec (motive := fun _ => T α) (frcQ (setQ x l (k / 2)) fun y => .node y v r) (fun _ _ => frcQ (setQ x r (k / 2)) fun y => .node l v y) (k % 2) = T.setF (k + 1 + 1) (.node l v r) (k + 1) x
    simp only [T.setF, T.frc_eq, frcQ_eq, setQ_eq x l, setQ_eq x r, T.set]
    rcases Nat.mod_two_eq_zero_or_one k with h | h <;> simp only [h]
    · show (T.setF (k / 2 + 1) l (k / 2) x).node v r = _
      rw [setF_fuel x (k / 2 + 1) (k + 1) _ _ (by omega) (by omega)]
    · show l.node v (T.setF (k / 2 + 1) r (k / 2) x) = _
      rw [setF_fuel x (k / 2 + 1) (k + 1) _ _ (by omega) (by omega)]


/-- The sum and the difference of whole numbers, the small ones first. -/
def addQ (a b : Int) : Int := Int.rec (motive := fun _ => Int) (fun m => Int.rec (motive := fun _ => Int) (fun n => .ofNat (Nat.add m n)) (fun n => Int.add (.ofNat m) (.negSucc n)) b) (fun m => Int.add (.negSucc m) b) a
theorem addQ_eq (a b : Int) : addQ a b = a + b := by cases a <;> cases b <;> rfl

def subQ (a b : Int) : Int :=
  Int.rec (motive := fun _ => Int) (fun m => Int.rec (motive := fun _ => Int) (fun n => Bool.rec (motive := fun _ => Int) (.negSucc (Nat.pred (Nat.sub n m))) (.ofNat (Nat.sub m n)) (Nat.ble n m)) (fun n => Int.sub (.ofNat m) (.negSucc n)) b) (fun m => Int.sub (.negSucc m) b) a
theorem subQ_eq (a b : Int) : subQ a b = a - b := by
  cases a with
  | negSucc m => rfl
  | ofNat m =>
    cases b with
    | negSucc n => rfl
    | ofNat n =>
      show Bool.rec (motive := fun _ => Int) (.negSucc (Nat.pred (Nat.sub n m))) (.ofNat (Nat.sub m n)) (Nat.ble n m) = _
      cases h : Nat.ble n m with
      | true => have := Nat.le_of_ble_eq_true h; simp; omega
      | false =>
        have : ¬ n ≤ m := fun hh => by rw [Nat.ble_eq_true_of_le hh] at h; cases h
        simp
        omega

abbrev R := Option (Value × St)
abbrev KV := Value → R
abbrev K2 := Value → St → R
abbrev CallQ := FuncId → List Value → St → K2 → R

def evQ (x : Opd) (t : T Value) (K : KV) : R :=
  Opd.rec (motive := fun _ => T Value → KV → R) (fun n t K => Option.rec (motive := fun _ => KV → R) (fun K => K undefV) (fun v K => K v) (getQ t n) K) (fun v _ K => K v) x t K

def natQ (n : Nat) (K : Nat → R) : R := Nat.rec (motive := fun _ => (Nat → R) → R) (fun K => K 0) (fun m _ K => K (Nat.succ m)) n K

def boolQ (b : Bool) (K : KV) : R := Bool.rec (motive := fun _ => KV → R) (fun K => K (.bool false)) (fun K => K (.bool true)) b K

def intQ (n : Int) (k : IntKind) (K : KV) : R :=
  Int.rec (motive := fun _ => IntKind → KV → R) (fun m k K => Nat.rec (motive := fun _ => IntKind → KV → R) (fun k K => K (.int k (.ofNat 0))) (fun m _ k K => K (.int k (.ofNat (Nat.succ m)))) m k K)
    (fun m k K => Nat.rec (motive := fun _ => IntKind → KV → R) (fun k K => K (.int k (.negSucc 0))) (fun m _ k K => K (.int k (.negSucc (Nat.succ m)))) m k K) n k K

def putQ (d : Option Nat) (v : Value) (t : T Value) (K : T Value → R) : R :=
  Option.rec (motive := fun _ => Value → T Value → (T Value → R) → R) (fun _ t K => K t) (fun d v t K => frcQ (setQ v t d) K) d v t K

def stQ (s : St) (K : St → R) : R :=
  St.rec (motive := fun _ => (St → R) → R) (fun h nx ep K => frcQ h fun h => natQ nx fun nx => frcQ ep fun ep => K (.mk h nx ep)) s K

def addrQ (a : Option Addr) (Z : R) (K : Addr → R) : R :=
  Option.rec (motive := fun _ => R → (Addr → R) → R) (fun Z _ => Z) (fun a _ K => Addr.rec (motive := fun _ => (Addr → R) → R) (fun A o x K => natQ A fun A => natQ o fun o => K ⟨A, o, x⟩) a K) a Z K

def forceQ (v : Value) (K : KV) : R :=
  Value.rec (motive_1 := fun _ => KV → R) (motive_2 := fun _ => PUnit) (motive_3 := fun _ => PUnit)
      (fun b K => boolQ b K) (fun k n K => intQ n k K) (fun k n K => K (.float k n)) (fun k a b K => K (.complex k a b)) (fun b K => K (.string b)) (fun a K => addrQ a (K (.pointer none)) fun a => K (.pointer (some a))) (fun a n c K => natQ n fun n => natQ c fun c => addrQ a (K (.slice none n c)) fun a => K (.slice (some a) n c)) (fun r K => Option.rec (motive := fun _ => KV → R) (fun K => K (.map none)) (fun A K => natQ A fun A => K (.map (some A))) r K) (fun r K => K (.chan r)) (fun f a b _ _ K => K (.func f a b)) (fun K => K .nilFunc) (fun t v _ K => K (.iface t v)) (fun K => K .nilIface) (fun a _ K => K (.agg a)) (fun a _ K => K (.tuple a))
      (fun _ _ => ⟨⟩) ⟨⟩ (fun _ _ _ _ => ⟨⟩) v K

def someQ {α : Type} (o : Option α) (K : α → R) : R := Option.rec (motive := fun _ => (α → R) → R) (fun _ => none) (fun x K => K x) o K

def genQ (r : R) (K : K2) : R :=
  Option.rec (motive := fun _ => K2 → R) (fun _ => none) (fun p K => Prod.rec (motive := fun _ => K2 → R) (fun v s K => forceQ v fun v => stQ s fun s => K v s) p K) r K

def nthQ {α : Type} (l : List α) : Nat → Option α :=
  List.rec (motive := fun _ => Nat → Option α) (fun _ => none) (fun x _ ih i => Nat.rec (motive := fun _ => Option α) (some x) (fun i _ => ih i) i) l

/-- A pointer's place. -/
def ptrQ (v : Value) (K : Nat → Nat → R) : R :=
  Value.rec (motive_1 := fun _ => (Nat → Nat → R) → R) (motive_2 := fun _ => PUnit) (motive_3 := fun _ => PUnit)
      (fun _ _ => none) (fun _ _ _ => none) (fun _ _ _ => none) (fun _ _ _ _ => none) (fun _ _ => none) (fun a K => Option.rec (motive := fun _ => (Nat → Nat → R) → R) (fun _ => none) (fun a K => Addr.rec (motive := fun _ => (Nat → Nat → R) → R) (fun A o x K => Option.rec (motive := fun _ => Nat → Nat → (Nat → Nat → R) → R) (fun A o K => K A o) (fun _ _ _ _ => none) x A o K) a K) a K) (fun _ _ _ _ => none) (fun _ _ => none) (fun _ _ => none) (fun _ _ _ _ _ _ => none) (fun _ => none) (fun _ _ _ _ => none) (fun _ => none) (fun _ _ _ => none) (fun _ _ _ => none)
      (fun _ _ => ⟨⟩) ⟨⟩ (fun _ _ _ _ => ⟨⟩) v K

def cellsQ (s : St) (A : Nat) (K : List Value → R) : R :=
  St.rec (motive := fun _ => Nat → (List Value → R) → R) (fun h _ ep A K => Option.rec (motive := fun _ => T Nat → (List Value → R) → R) (fun _ _ => none)
    (fun ob ep K => AObj.rec (motive := fun _ => T Nat → (List Value → R) → R) (fun _ _ cs g old ep K => Bool.rec (motive := fun _ => List Value → (List Value → R) → R) (fun _ _ => none) (fun cs K => K cs) (readable ep g old) cs K) (fun _ _ _ _ => none) (fun _ _ _ _ => none) ob ep K) (getQ h A) ep K) s A K

def loadQ (v : Value) (s : St) (K : K2) : R := ptrQ v fun A o => cellsQ s A fun cs => someQ (nthQ cs o) fun u => K u s

def lenQ (v : Value) (s : St) (K : K2) : R :=
  Value.rec (motive_1 := fun _ => St → K2 → R) (motive_2 := fun _ => PUnit) (motive_3 := fun _ => PUnit)
      (fun _ _ _ => none) (fun _ _ _ _ => none) (fun _ _ _ _ => none) (fun _ _ _ _ _ => none) (fun _ _ _ => none) (fun _ _ _ => none) (fun _ n _ s K => natQ n fun n => K (.int .i64 (.ofNat n)) s) (fun _ _ _ => none) (fun _ _ _ => none) (fun _ _ _ _ _ _ _ => none) (fun _ _ => none) (fun _ _ _ _ _ => none) (fun _ _ => none) (fun _ _ _ _ => none) (fun _ _ _ _ => none)
      (fun _ _ => ⟨⟩) ⟨⟩ (fun _ _ _ _ => ⟨⟩) v s K

def idxQ (v : Value) (K : Nat → R) : R :=
  Value.rec (motive_1 := fun _ => (Nat → R) → R) (motive_2 := fun _ => PUnit) (motive_3 := fun _ => PUnit)
      (fun _ _ => none) (fun _ n K => Int.rec (motive := fun _ => (Nat → R) → R) (fun m K => K m) (fun _ _ => none) n K) (fun _ _ _ => none) (fun _ _ _ _ => none) (fun _ _ => none) (fun _ _ => none) (fun _ _ _ _ => none) (fun _ _ => none) (fun _ _ => none) (fun _ _ _ _ _ _ => none) (fun _ => none) (fun _ _ _ _ => none) (fun _ => none) (fun _ _ _ => none) (fun _ _ _ => none)
      (fun _ _ => ⟨⟩) ⟨⟩ (fun _ _ _ _ => ⟨⟩) v K

def iaddrQ (v : Value) (i z : Nat) (K : KV) : R :=
  Value.rec (motive_1 := fun _ => Nat → Nat → KV → R) (motive_2 := fun _ => PUnit) (motive_3 := fun _ => PUnit)
      (fun _ _ _ _ => none) (fun _ _ _ _ _ => none) (fun _ _ _ _ _ => none) (fun _ _ _ _ _ _ => none) (fun _ _ _ _ => none) (fun _ _ _ _ => none) (fun a n _ i z K => Option.rec (motive := fun _ => Nat → Nat → Nat → KV → R) (fun _ _ _ _ => none) (fun a n i z K => Addr.rec (motive := fun _ => Nat → Nat → Nat → KV → R) (fun A o x n i z K => Option.rec (motive := fun _ => Nat → Nat → Nat → Nat → Nat → KV → R) (fun A o n i z K => Bool.rec (motive := fun _ => Nat → Nat → KV → R) (fun _ _ _ => none) (fun A m K => natQ m fun m => K (.pointer (some ⟨A, m, none⟩))) (Nat.ble (Nat.succ i) n) A (Nat.add o (Nat.mul i z)) K) (fun _ _ _ _ _ _ _ => none) x A o n i z K) a n i z K) a n i z K) (fun _ _ _ _ => none) (fun _ _ _ _ => none) (fun _ _ _ _ _ _ _ _ => none) (fun _ _ _ => none) (fun _ _ _ _ _ _ => none) (fun _ _ _ => none) (fun _ _ _ _ _ => none) (fun _ _ _ _ _ => none)
      (fun _ _ => ⟨⟩) ⟨⟩ (fun _ _ _ _ => ⟨⟩) v i z K

def faddrQ (off : Nat) (v : Value) (K : KV) : R := ptrQ v fun A o => natQ (Nat.add o off) fun m => K (.pointer (some ⟨A, m, none⟩))

def aggQ (v : Value) (i : Nat) (K : KV) : R :=
  Value.rec (motive_1 := fun _ => Nat → KV → R) (motive_2 := fun _ => PUnit) (motive_3 := fun _ => PUnit)
      (fun _ _ _ => none) (fun _ _ _ _ => none) (fun _ _ _ _ => none) (fun _ _ _ _ _ => none) (fun _ _ _ => none) (fun _ _ _ => none) (fun _ _ _ _ _ => none) (fun _ _ _ => none) (fun _ _ _ => none) (fun _ _ _ _ _ _ _ => none) (fun _ _ => none) (fun _ _ _ _ _ => none) (fun _ _ => none) (fun cs _ i K => someQ (nthQ cs.toList i) K) (fun _ _ _ _ => none)
      (fun _ _ => ⟨⟩) ⟨⟩ (fun _ _ _ _ => ⟨⟩) v i K

def tupQ (v : Value) (i : Nat) (K : KV) : R :=
  Value.rec (motive_1 := fun _ => Nat → KV → R) (motive_2 := fun _ => PUnit) (motive_3 := fun _ => PUnit)
      (fun _ _ _ => none) (fun _ _ _ _ => none) (fun _ _ _ _ => none) (fun _ _ _ _ _ => none) (fun _ _ _ => none) (fun _ _ _ => none) (fun _ _ _ _ _ => none) (fun _ _ _ => none) (fun _ _ _ => none) (fun _ _ _ _ _ _ _ => none) (fun _ _ => none) (fun _ _ _ _ _ => none) (fun _ _ => none) (fun _ _ _ _ => none) (fun cs _ i K => someQ (nthQ cs.toList i) fun v => forceQ v K)
      (fun _ _ => ⟨⟩) ⟨⟩ (fun _ _ _ _ => ⟨⟩) v i K

def kindN (k : IntKind) : Nat := IntKind.rec (motive := fun _ => Nat) 0 1 2 3 4 5 6 7 k

def opN (op : BinOp) : Nat := BinOp.rec (motive := fun _ => Nat) 0 1 9 9 9 9 9 9 9 9 9 2 9 3 9 9 9 op

def bigQ (op : BinOp) (k k' : IntKind) (m n : Int) (K : KV) : R := someQ (binF op (.int k m) (.int k' n)) fun v => forceQ v K

/-- Two whole numbers. -/
def intsQ (op : BinOp) (k k' : IntKind) (m n : Int) (K : KV) : R :=
  Bool.rec (motive := fun _ => BinOp → IntKind → IntKind → Int → Int → KV → R) (fun op k k' m n K => bigQ op k k' m n K)
    (fun op k k' m n K => BinOp.rec (motive := fun _ => IntKind → IntKind → Int → Int → KV → R)
      (fun k _ m n K => intQ (wrapF k (addQ m n)) k K) (fun k _ m n K => intQ (wrapF k (subQ m n)) k K)
      (fun k k' m n K => bigQ .mul k k' m n K) (fun k k' m n K => bigQ .quo k k' m n K) (fun k k' m n K => bigQ .rem k k' m n K) (fun k k' m n K => bigQ .and k k' m n K) (fun k k' m n K => bigQ .or k k' m n K)
      (fun k k' m n K => bigQ .xor k k' m n K) (fun k k' m n K => bigQ .shl k k' m n K) (fun k k' m n K => bigQ .shr k k' m n K) (fun k k' m n K => bigQ .andNot k k' m n K)
      (fun _ _ m n K => boolQ (Int.beqF m n) K) (fun k k' m n K => bigQ .neq k k' m n K) (fun _ _ m n K => boolQ (Int.ltF m n) K) (fun k k' m n K => bigQ .leq k k' m n K) (fun k k' m n K => bigQ .gtr k k' m n K) (fun k k' m n K => bigQ .geq k k' m n K)
      op k k' m n K)
    (Nat.beq (kindN k) (kindN k')) op k k' m n K

def binQ (a b : Value) (op : BinOp) (K : KV) : R :=
  Value.rec (motive_1 := fun _ => Value → BinOp → KV → R) (motive_2 := fun _ => PUnit) (motive_3 := fun _ => PUnit)
      (fun _ _ _ _ => none) (fun k m b op K => Value.rec (motive_1 := fun _ => IntKind → Int → BinOp → KV → R) (motive_2 := fun _ => PUnit) (motive_3 := fun _ => PUnit)
      (fun _ _ _ _ _ => none) (fun k' n k m op K => intsQ op k k' m n K) (fun _ _ _ _ _ _ => none) (fun _ _ _ _ _ _ _ => none) (fun _ _ _ _ _ => none) (fun _ _ _ _ _ => none) (fun _ _ _ _ _ _ _ => none) (fun _ _ _ _ _ => none) (fun _ _ _ _ _ => none) (fun _ _ _ _ _ _ _ _ _ => none) (fun _ _ _ _ => none) (fun _ _ _ _ _ _ _ => none) (fun _ _ _ _ => none) (fun _ _ _ _ _ _ => none) (fun _ _ _ _ _ _ => none)
      (fun _ _ => ⟨⟩) ⟨⟩ (fun _ _ _ _ => ⟨⟩) b k m op K) (fun _ _ _ _ _ => none) (fun _ _ _ _ _ _ => none) (fun x b op K => someQ (binF op (.string x) b) fun v => forceQ v K) (fun _ _ _ _ => none) (fun _ _ _ _ _ _ => none) (fun _ _ _ _ => none) (fun _ _ _ _ => none) (fun _ _ _ _ _ _ _ _ => none) (fun _ _ _ => none) (fun _ _ _ _ _ _ => none) (fun _ _ _ => none) (fun _ _ _ _ _ => none) (fun _ _ _ _ _ => none)
      (fun _ _ => ⟨⟩) ⟨⟩ (fun _ _ _ _ => ⟨⟩) a b op K

def revQ (l : List Value) : List Value → List Value := List.rec (motive := fun _ => List Value → List Value) (fun r => r) (fun x _ ih r => ih (x :: r)) l

def evsQ (l : List Opd) (t : T Value) (acc : List Value) (K : List Value → R) : R :=
  List.rec (motive := fun _ => T Value → List Value → (List Value → R) → R) (fun _ acc K => K (revQ acc [])) (fun x _ ih t acc K => evQ x t fun v => ih t (v :: acc) K) l t acc K

def callvQ (v : Value) (call : CallQ) (l : List Value) (s : St) (K : K2) : R :=
  Value.rec (motive_1 := fun _ => CallQ → List Value → St → K2 → R) (motive_2 := fun _ => PUnit) (motive_3 := fun _ => PUnit)
      (fun _ _ _ _ _ => none) (fun _ _ _ _ _ _ => none) (fun _ _ _ _ _ _ => none) (fun _ _ _ _ _ _ _ => none) (fun _ _ _ _ _ => none) (fun _ _ _ _ _ => none) (fun _ _ _ _ _ _ _ => none) (fun _ _ _ _ _ => none) (fun _ _ _ _ _ => none) (fun f a b _ _ call l s K => (match f with
      | .func f => call f (app a.toList (app l b.toList)) s K
      | _ => none)) (fun _ _ _ _ => none) (fun _ _ _ _ _ _ _ => none) (fun _ _ _ _ => none) (fun _ _ _ _ _ _ => none) (fun _ _ _ _ _ _ => none)
      (fun _ _ => ⟨⟩) ⟨⟩ (fun _ _ _ _ => ⟨⟩) v call l s K

def stepQ (o : COp) (call : CallQ) (t : T Value) (s : St) (K : K2) : R :=
  COp.rec (motive := fun _ => CallQ → T Value → St → K2 → R)
    (fun x call t s K => evQ x t fun v => K v s)
    (fun c a b call t s K => genQ (do_pick t s c a b) K)
    (fun e cs call t s K => genQ (do_alloc t s e cs) K)
    (fun e x call t s K => genQ (do_box t s e x) K)
    (fun cs ps call t s K => genQ (do_build t s cs ps) K)
    (fun e z n cs ps call t s K => genQ (do_buildSlice t s e z n cs ps) K)
    (fun a call t s K => evQ a t fun v => loadQ v s K)
    (fun n a call t s K => genQ (do_loadN t s n a) K)
    (fun n a x call t s K => genQ (do_store t s n a x) K)
    (fun x call t s K => genQ (do_nilCheck t s x) K)
    (fun op x y call t s K => evQ x t fun a => evQ y t fun b => binQ a b op fun v => K v s)
    (fun neg x y call t s K => genQ (do_eqB t s neg x y) K)
    (fun nk neg x call t s K => genQ (do_eqNil t s nk neg x) K)
    (fun kk neg x y call t s K => genQ (do_eqFlat t s kk neg x y) K)
    (fun x call t s K => genQ (do_not t s x) K)
    (fun x call t s K => genQ (do_neg t s x) K)
    (fun k x call t s K => genQ (do_conv t s k x) K)
    (fun x call t s K => genQ (do_runeStr t s x) K)
    (fun x call t s K => genQ (do_str t s x) K)
    (fun e x call t s K => genQ (do_bytesOf t s e x) K)
    (fun x call t s K => genQ (do_strOf t s x) K)
    (fun f a b call t s K => genQ (do_mkFunc t s f a b) K)
    (fun call t s K => genQ (do_mkMap t s) K)
    (fun e bytes z zero n c call t s K => genQ (do_mkSlice t s e bytes z zero n c) K)
    (fun x lo hi call t s K => genQ (do_sub t s x lo hi) K)
    (fun z x lo hi call t s K => genQ (do_slice t s z x lo hi) K)
    (fun off x call t s K => evQ x t fun v => faddrQ off v fun u => K u s)
    (fun off x call t s K => evQ x t fun v => aggQ v off fun u => K u s)
    (fun off n x call t s K => genQ (do_fieldN t s off n x) K)
    (fun z x i call t s K => evQ x t fun v => evQ i t fun j => idxQ j fun i => iaddrQ v i z fun u => K u s)
    (fun n z x i call t s K => genQ (do_iaddrA t s n z x i) K)
    (fun x i call t s K => genQ (do_idxStr t s x i) K)
    (fun n x i call t s K => genQ (do_idxA t s n x i) K)
    (fun n z x i call t s K => genQ (do_idxAN t s n z x i) K)
    (fun flat zero ok m k call t s K => genQ (do_lookup t s flat zero ok m k) K)
    (fun flat m k v call t s K => genQ (do_mapSet t s flat m k v) K)
    (fun _ _ _ _ call t s K => none)
    (fun _ _ _ call t s K => none)
    (fun i x call t s K => evQ x t fun v => tupQ v i fun u => K u s)
    (fun f args call t s K => evsQ args t [] fun l => call f l s K)
    (fun x args call t s K => evsQ args t [] fun l => evQ x t fun v => callvQ v call l s K)
    (fun x call t s K => genQ (do_lenStr t s x) K)
    (fun x call t s K => evQ x t fun v => lenQ v s K)
    (fun x call t s K => genQ (do_lenMap t s x) K)
    (fun n call t s K => genQ (do_lenC t s n) K)
    (fun e z bytes x y call t s K => genQ (do_append t s e z bytes x y) K)
    (fun z x y call t s K => genQ (do_copy t s z x y) K)
    (fun _ _ _ call t s K => none)
    (fun least x y call t s K => genQ (do_most t s least x y) K)
    (fun x call t s K => genQ (do_range t s x) K)
    (fun x call t s K => genQ (do_next t s x) K)
    (fun call t s K => none)
    o call t s K

/-! ### code -/

def wantQ (g : Option (Nat × Bool)) (t : T Value) (A B : R) : R :=
  Option.rec (motive := fun _ => T Value → R → R → R) (fun _ A _ => A) (fun p t A B => Prod.rec (motive := fun _ => T Value → R → R → R) (fun j w t A B => Option.rec (motive := fun _ => Bool → R → R → R) (fun _ _ B => B)
    (fun v w A B => Value.rec (motive_1 := fun _ => Bool → R → R → R) (motive_2 := fun _ => PUnit) (motive_3 := fun _ => PUnit)
      (fun b w A B => Bool.rec (motive := fun _ => Bool → R → R → R) (fun b A B => Bool.rec (motive := fun _ => R → R → R) (fun A _ => A) (fun _ B => B) b A B) (fun b A B => Bool.rec (motive := fun _ => R → R → R) (fun _ B => B) (fun A _ => A) b A B) w b A B) (fun _ _ _ _ B => B) (fun _ _ _ _ B => B) (fun _ _ _ _ _ B => B) (fun _ _ _ B => B) (fun _ _ _ B => B) (fun _ _ _ _ _ B => B) (fun _ _ _ B => B) (fun _ _ _ B => B) (fun _ _ _ _ _ _ _ B => B) (fun _ _ B => B) (fun _ _ _ _ _ B => B) (fun _ _ B => B) (fun _ _ _ _ B => B) (fun _ _ _ _ B => B)
      (fun _ _ => ⟨⟩) ⟨⟩ (fun _ _ _ _ => ⟨⟩) v w A B) (getQ t j) w A B) p t A B) g t A B

def runOpsQ (l : List CE) (call : CallQ) (t : T Value) (s : St) (K : T Value → St → R) : R :=
  List.rec (motive := fun _ => CallQ → T Value → St → (T Value → St → R) → R) (fun _ t s K => K t s)
    (fun e _ ih call t s K => CE.rec (motive := fun _ => (CallQ → T Value → St → (T Value → St → R) → R) → CallQ → T Value → St → (T Value → St → R) → R) (fun dst op guard ih call t s K =>
      wantQ guard t (stepQ op call t s fun v s' => putQ dst v t fun t' => ih call t' s' K) (putQ dst undefV t fun t' => ih call t' s K)) e ih call t s K) l call t s K

abbrev DrawQ := CallQ → Nat → List Open → T Value → St → (T Value → St → R) → R

def madeQ (s' s : St) (k hi : Nat) (opens : List Open) (K : List Open → R) : R :=
  someQ (s'.obj s.nextId) fun o => Bool.rec (motive := fun _ => R) none (K (.make s.nextId o hi :: opens)) (holdAll s' k opens)

def runDrawQ (l : List (CE × Nat)) (call : CallQ) (k : Nat) (opens : List Open) (t : T Value) (s : St) (K : T Value → St → R) : R :=
  List.rec (motive := fun _ => DrawQ) (fun _ _ _ t s K => K t s)
    (fun p _ ih call k opens t s K => Prod.rec (motive := fun _ => DrawQ → DrawQ) (fun e hi ih call k opens t s K => CE.rec (motive := fun _ => Nat → DrawQ → DrawQ) (fun dst op guard hi ih call k opens t s K =>
      wantQ guard t
        (stepQ op call t s fun v s' => putQ dst v t fun t' =>
          Cls.rec (motive := fun _ => R) (ih call k opens t' s' K) (ih call k (.read t op v hi :: opens) t' s' K)
            (madeQ s' s k hi opens fun opens => ih call k opens t' s' K)
            (Bool.rec (motive := fun _ => R) none (ih call (Nat.succ k) opens t' s' K) (holdAll s' (Nat.succ k) opens)) op.cls)
        (putQ dst undefV t fun t' => Cls.rec (motive := fun _ => R) (ih call k opens t' s K) (ih call k opens t' s K) (ih call k opens t' s K) (ih call (Nat.succ k) opens t' s K) op.cls)) e hi ih call k opens t s K) p ih call k opens t s K) l call k opens t s K

def initQ (l : List Value) (i : Nat) (t : T Value) (K : T Value → R) : R :=
  List.rec (motive := fun _ => Nat → T Value → (T Value → R) → R) (fun _ t K => K t) (fun v _ ih i t K => frcQ (setQ v t i) fun t' => ih (Nat.succ i) t' K) l i t K

def hdQ (l : List Value) (K : KV) : R := List.rec (motive := fun _ => KV → R) (fun _ => none) (fun v _ _ K => forceQ v K) l K

def resQ (l : List CRes) (t : T Value) (s : St) (acc : List Value) (K : List Value → R) : R :=
  List.rec (motive := fun _ => T Value → St → List Value → (List Value → R) → R) (fun _ _ acc K => K (revQ acc []))
    (fun r _ ih t s acc K => CRes.rec (motive := fun _ => T Value → St → (T Value → St → List Value → (List Value → R) → R) → List Value → (List Value → R) → R) (fun n t s ih acc K => evQ (.t n) t fun v => ih t s (v :: acc) K)
      (fun a t s ih acc K => someQ (resF t s [.cell a]) fun vs => hdQ vs fun v => ih t s (v :: acc) K)
      (fun n a t s ih acc K => someQ (resF t s [.cells n a]) fun vs => hdQ vs fun v => ih t s (v :: acc) K) r t s ih acc K) l t s acc K

abbrev KE := Ex → T Value → St → R
abbrev CodeQ := CCode → T Value → St → KE → R

def callQ (prog : Nat → Option CFunc) (code : CodeQ) : CallQ := fun f args s K =>
  Option.rec (motive := fun _ => CodeQ → List Value → St → K2 → R) (fun _ _ _ _ => none) (fun fn code args s K => CFunc.rec (motive := fun _ => CodeQ → List Value → St → K2 → R) (fun nt res body code args s K => Bool.rec (motive := fun _ => R) none (initQ args 0 .nil fun t => code body t s fun ex t' s' =>
    Ex.rec (motive := fun _ => R) (resQ res t' s' [] fun vs => K (retV vs) s') (fun _ => none) (resQ res t' s' [] fun vs => K (retV vs) s') ex) (okArgs nt args)) fn code args s K) (prog f) code args s K

def condQ (v : Value) (a b : CCode) (ih : CodeQ) (t : T Value) (s : St) (K : KE) : R :=
  Value.rec (motive_1 := fun _ => CCode → CCode → CodeQ → T Value → St → KE → R) (motive_2 := fun _ => PUnit) (motive_3 := fun _ => PUnit)
      (fun z a b ih t s K => Bool.rec (motive := fun _ => CCode → CCode → CodeQ → T Value → St → KE → R) (fun _ b ih t s K => ih b t s K) (fun a _ ih t s K => ih a t s K) z a b ih t s K) (fun _ _ _ _ _ _ _ _ => none) (fun _ _ _ _ _ _ _ _ => none) (fun _ _ _ _ _ _ _ _ _ => none) (fun _ _ _ _ _ _ _ => none) (fun _ _ _ _ _ _ _ => none) (fun _ _ _ _ _ _ _ _ _ => none) (fun _ _ _ _ _ _ _ => none) (fun _ _ _ _ _ _ _ => none) (fun _ _ _ _ _ _ _ _ _ _ _ => none) (fun _ _ _ _ _ _ => none) (fun _ _ _ _ _ _ _ _ _ => none) (fun _ _ _ _ _ _ => none) (fun _ _ _ _ _ _ _ _ => none) (fun _ _ _ _ _ _ _ _ => none)
      (fun _ _ => ⟨⟩) ⟨⟩ (fun _ _ _ _ => ⟨⟩) v a b ih t s K

def codeQ (prog : Nat → Option CFunc) (n : Nat) : CodeQ :=
  Nat.rec (motive := fun _ => (Nat → Option CFunc) → CodeQ) (fun _ _ _ _ _ => none) (fun _ ih prog c t s K =>
    CCode.rec (motive := fun _ => (Nat → Option CFunc) → CodeQ → T Value → St → KE → R)
      (fun _ _ t s K => K .normal t s)
      (fun ops prog ih t s K => runOpsQ ops (callQ prog ih) t s fun t' s' => K .normal t' s')
      (fun ops prog ih t s K => runDrawQ ops (callQ prog ih) 0 [] t s fun t' s' => K .normal t' s')
      (fun a b _ _ _ ih t s K => ih a t s fun ex t' s' => Ex.rec (motive := fun _ => R) (ih b t' s' K) (fun j => K (.exit j) t' s') (K .ret t' s') ex)
      (fun x a b _ _ _ ih t s K => evQ x t fun v => condQ v a b ih t s K)
      (fun id a _ _ ih t s K => ih a t s fun ex t' s' => Ex.rec (motive := fun _ => R) (K .normal t' s') (fun j => Bool.rec (motive := fun _ => R) (K (.exit j) t' s') (K .normal t' s') (Nat.beq j id)) (K .ret t' s') ex)
      (fun a _ _ ih t s K => ih a t s fun ex t' s' => Ex.rec (motive := fun _ => R) (ih (.loop a) t' s' K) (fun j => K (.exit j) t' s') (K .ret t' s') ex)
      (fun id _ _ t s K => K (.exit id) t s)
      (fun _ _ t s K => K .ret t s) c prog (ih prog) t s K) n prog

def saysQ (prog : Nat → Option CFunc) (n f : Nat) : Bool := evTrueQ (callQ prog (codeQ prog n) f [] (.mk .nil 0 .nil) fun v s => some (v, s))
end
end Go.Ev
end

section
set_option linter.unusedSimpArgs false
set_option linter.unusedVariables false
namespace Go.Ev
open Go _root_.Ev

theorem evQ_eq (x : Opd) (t : T Value) (K : KV) : evQ x t K = K (x.ev t) := by
  cases x with
  | c v => rfl
  | t n =>
    show Option.rec (motive := fun _ => KV → R) (fun K => K undefV) (fun v K => K v) (getQ t n) K = _
    simp only [Opd.ev]
    rw [getQ_eq]
    cases t.get n <;> rfl

theorem natQ_eq (n : Nat) (K : Nat → R) : natQ n K = K n := by cases n <;> rfl
theorem boolQ_eq (b : Bool) (K : KV) : boolQ b K = K (.bool b) := by cases b <;> rfl
theorem intQ_eq (n : Int) (k : IntKind) (K : KV) : intQ n k K = K (.int k n) := by
  cases n with
  | ofNat m => cases m <;> rfl
  | negSucc m => cases m <;> rfl

theorem putQ_eq (d : Option Nat) (v : Value) (t : T Value) (K : T Value → R) : putQ d v t K = K (put t d v) := by
  cases d with
  | none => rfl
  | some d => show frcQ (setQ v t d) K = _; rw [frcQ_eq, setQ_eq]; rfl

theorem stQ_eq (s : St) (K : St → R) : stQ s K = K s := by
  cases s with | mk h nx ep =>
  show (frcQ h fun h => natQ nx fun nx => frcQ ep fun ep => K (.mk h nx ep)) = _
  rw [frcQ_eq, natQ_eq, frcQ_eq]

theorem addrQ_some (a : Addr) (Z : R) (K : Addr → R) : addrQ (some a) Z K = K a := by
  obtain ⟨A, o, x⟩ := a
  show (natQ A fun A => natQ o fun o => K ⟨A, o, x⟩) = _
  rw [natQ_eq, natQ_eq]

theorem forceQ_eq (v : Value) (K : KV) : forceQ v K = K v := by
  cases v with
  | bool b => exact boolQ_eq b K
  | int k n => exact intQ_eq n k K
  | pointer a =>
    cases a with
    | none => rfl
    | some a => show addrQ (some a) (K (.pointer none)) (fun a => K (.pointer (some a))) = _; rw [addrQ_some]
  | slice a n c =>
    show (natQ n fun n => natQ c fun c => addrQ a (K (.slice none n c)) fun a => K (.slice (some a) n c)) = _
    rw [natQ_eq, natQ_eq]
    cases a with
    | none => rfl
    | some a => exact addrQ_some a _ _
  | map r =>
    cases r with
    | none => rfl
    | some A => exact natQ_eq A _
  | _ => rfl

theorem someQ_eq {α : Type} (o : Option α) (K : α → R) : someQ o K = o.bind K := by cases o <;> rfl

theorem genQ_eq (r : R) (K : K2) : genQ r K = r.bind fun p => K p.1 p.2 := by
  cases r with
  | none => rfl
  | some p =>
    obtain ⟨v, s⟩ := p
    show (forceQ v fun v => stQ s fun s => K v s) = _
    rw [forceQ_eq, stQ_eq]; rfl

theorem nthQ_eq {α : Type} : ∀ (l : List α) (i : Nat), nthQ l i = nth l i
  | [], _ => rfl
  | _ :: _, 0 => rfl
  | _ :: l, i + 1 => nthQ_eq l i

theorem ptrQ_eq (v : Value) (K : Nat → Nat → R) : ptrQ v K = (addrOf v).bind fun p => K p.1 p.2 := by
  cases v with
  | pointer a =>
    cases a with
    | none => rfl
    | some a =>
      obtain ⟨A, o, x⟩ := a
      cases x <;> rfl
  | _ => rfl

theorem cellsQ_eq (s : St) (A : Nat) (K : List Value → R) : cellsQ s A K = (s.cellsOf A).bind K := by
  cases s with | mk h nx ep =>
  show Option.rec (motive := fun _ => T Nat → (List Value → R) → R) (fun _ _ => none)
    (fun ob ep K => AObj.rec (motive := fun _ => T Nat → (List Value → R) → R) (fun _ _ cs g old ep K => Bool.rec (motive := fun _ => List Value → (List Value → R) → R) (fun _ _ => none) (fun cs K => K cs) (readable ep g old) cs K) (fun _ _ _ _ => none) (fun _ _ _ _ => none) ob ep K) (getQ h A) ep K = _
  rw [getQ_eq]
  simp only [St.cellsOf]
  cases h.get A with
  | none => rfl
  | some ob =>
    cases ob with
    | row e z cs g old =>
      show Bool.rec (motive := fun _ => List Value → (List Value → R) → R) (fun _ _ => none) (fun cs K => K cs) (readable ep g old) cs K = _
      simp only []
      cases readable ep g old <;> rfl
    | _ => rfl

theorem load_eq (t : T Value) (s : St) (a : Opd) (K : K2) : loadQ (a.ev t) s K = (do_load t s a).bind fun p => K p.1 p.2 := by
  unfold loadQ do_load
  rw [ptrQ_eq]
  cases addrOf (a.ev t) with
  | none => rfl
  | some p =>
    obtain ⟨A, o⟩ := p
    simp only [Option.bind_some, cellsQ_eq]
    cases s.cellsOf A with
    | none => rfl
    | some cs =>
      simp only [Option.bind_some, someQ_eq, nthQ_eq]
      cases nth cs o <;> rfl

theorem len_eq' (t : T Value) (s : St) (x : Opd) (K : K2) : lenQ (x.ev t) s K = (do_lenSl t s x).bind fun p => K p.1 p.2 := by
  unfold do_lenSl
  generalize x.ev t = v
  cases v with
  | slice a n c => exact natQ_eq n _
  | _ => rfl

theorem iaddr_eq (t : T Value) (s : St) (z : Nat) (x i : Opd) (K : K2) : (idxQ (i.ev t) fun j => iaddrQ (x.ev t) j z fun u => K u s) = (do_iaddr t s z x i).bind fun p => K p.1 p.2 := by
  unfold do_iaddr intN
  generalize i.ev t = j
  generalize x.ev t = v
  cases j with
  | int k n =>
    cases n with
    | ofNat m =>
      show (iaddrQ v m z fun u => K u s) = _
      cases v with
      | slice a n c =>
        cases a with
        | none => rfl
        | some a =>
          obtain ⟨A, o, x⟩ := a
          cases x with
          | some _ => rfl
          | none =>
            show Bool.rec (motive := fun _ => Nat → Nat → KV → R) (fun _ _ _ => none) (fun A m K => natQ m fun m => K (.pointer (some ⟨A, m, none⟩))) (Nat.ble (Nat.succ m) n) A (Nat.add o (Nat.mul m z)) (fun u => K u s) = _
            simp only []
            cases Nat.ble (Nat.succ m) n with
            | false => rfl
            | true => exact natQ_eq _ _
      | _ => rfl
    | negSucc m => cases v <;> first | rfl | (rename_i a n c; cases a with | none => rfl | some a => obtain ⟨A, o, x⟩ := a; cases x <;> rfl)
  | _ => cases v <;> first | rfl | (rename_i a n c; cases a with | none => rfl | some a => obtain ⟨A, o, x⟩ := a; cases x <;> rfl)

theorem faddr_eq (t : T Value) (s : St) (off : Nat) (x : Opd) (K : K2) : (faddrQ off (x.ev t) fun u => K u s) = (do_faddr t s off x).bind fun p => K p.1 p.2 := by
  unfold faddrQ do_faddr
  rw [ptrQ_eq]
  cases addrOf (x.ev t) with
  | none => rfl
  | some p =>
    obtain ⟨A, o⟩ := p
    simp only [Option.bind_some, natQ_eq]; rfl

theorem agg_eq (t : T Value) (s : St) (off : Nat) (x : Opd) (K : K2) : (aggQ (x.ev t) off fun u => K u s) = (do_field t s off x).bind fun p => K p.1 p.2 := by
  unfold do_field
  generalize x.ev t = v
  cases v with
  | agg cs =>
    show someQ (nthQ cs.toList off) (fun u => K u s) = _
    simp only [someQ_eq, nthQ_eq]
    cases nth cs.toList off <;> rfl
  | _ => rfl

theorem tup_eq (t : T Value) (s : St) (i : Nat) (x : Opd) (K : K2) : (tupQ (x.ev t) i fun u => K u s) = (do_extract t s i x).bind fun p => K p.1 p.2 := by
  unfold do_extract
  generalize x.ev t = v
  cases v with
  | tuple cs =>
    show someQ (nthQ cs.toList i) (fun v => forceQ v fun u => K u s) = _
    simp only [someQ_eq, nthQ_eq, forceQ_eq]
    cases nth cs.toList i <;> rfl
  | _ => rfl

theorem kindN_eq (k k' : IntKind) : Nat.beq (kindN k) (kindN k') = decide (k = k') := by cases k <;> cases k' <;> rfl

theorem bigQ_eq (op : BinOp) (k k' : IntKind) (m n : Int) (K : KV) : bigQ op k k' m n K = (binF op (.int k m) (.int k' n)).bind K := by
  unfold bigQ
  rw [someQ_eq]
  congr 1
  funext v
  exact forceQ_eq v K

theorem ints_eq (op : BinOp) (k k' : IntKind) (m n : Int) (K : KV) : intsQ op k k' m n K = (binF op (.int k m) (.int k' n)).bind K := by
  unfold intsQ
  cases h : Nat.beq (kindN k) (kindN k') with
  | false => exact bigQ_eq op k k' m n K
  | true =>
    have hk : decide (k = k') = true := by rw [← kindN_eq, h]
    cases op with
    | add => show intQ (wrapF k (addQ m n)) k K = _; rw [intQ_eq, addQ_eq]; simp only [binF, hk, binInt, mkInt, Option.bind_some]; cases wrapF k (m + n) <;> rfl
    | sub => show intQ (wrapF k (subQ m n)) k K = _; rw [intQ_eq, subQ_eq]; simp only [binF, hk, binInt, mkInt, Option.bind_some]; cases wrapF k (m - n) <;> rfl
    | eql => show boolQ _ K = _; rw [boolQ_eq]; simp only [binF, hk, binInt, Option.bind_some]
    | lss => show boolQ _ K = _; rw [boolQ_eq]; simp only [binF, hk, binInt, Option.bind_some]
    | _ => exact bigQ_eq _ k k' m n K

theorem binQ_eq (op : BinOp) (a b : Value) (K : KV) : binQ a b op K = (binF op a b).bind K := by
  cases a with
  | int k m =>
    cases b with
    | int k' n => exact ints_eq op k k' m n _
    | _ => rfl
  | string x =>
    show someQ (binF op (.string x) b) (fun v => forceQ v K) = _
    rw [someQ_eq]
    congr 1
    funext v
    exact forceQ_eq v _
  | _ => rfl

theorem bin_eq (t : T Value) (s : St) (op : BinOp) (x y : Opd) (K : K2) : (binQ (x.ev t) (y.ev t) op fun v => K v s) = (do_bin t s op x y).bind fun p => K p.1 p.2 := by
  unfold do_bin
  rw [binQ_eq]
  cases binF op (x.ev t) (y.ev t) <;> rfl

theorem revQ_eq : ∀ (l r : List Value), revQ l r = l.reverse ++ r
  | [], r => rfl
  | x :: l, r => by
    show revQ l (x :: r) = _
    rw [revQ_eq l]; simp

theorem evs_map (t : T Value) : ∀ l : List Opd, evs t l = l.map (·.ev t)
  | [] => rfl
  | x :: l => by simp [evs, evs_map t l]

theorem evsQ_eq (t : T Value) (K : List Value → R) : ∀ (l : List Opd) (acc : List Value), evsQ l t acc K = K (acc.reverse ++ evs t l)
  | [], acc => by
    show K (revQ acc []) = _
    rw [revQ_eq]; simp [evs]
  | x :: l, acc => by
    show (evQ x t fun v => evsQ l t (v :: acc) K) = _
    rw [evQ_eq, evsQ_eq t K l]
    simp [evs]

/-- A call's two forms. -/
def CallSame (q : CallQ) (c : CallF) : Prop := ∀ f args s K, q f args s K = (c f args s).bind fun p => K p.1 p.2

theorem callv_eq {q : CallQ} {c : CallF} (h : CallSame q c) (t : T Value) (s : St) (x : Opd) (args : List Opd) (K : K2) : callvQ (x.ev t) q (evs t args) s K = (do_callv c t s x args).bind fun p => K p.1 p.2 := by
  unfold do_callv
  generalize x.ev t = v
  cases v with
  | func f a b =>
    show (match f with
      | .func f => q f (app a.toList (app (evs t args) b.toList)) s K
      | _ => none) = _
    cases f with
    | func f => exact h _ _ _ _
    | _ => rfl
  | _ => rfl

theorem stepQ_eq {q : CallQ} {c : CallF} (h : CallSame q c) (o : COp) (t : T Value) (s : St) (K : K2) : stepQ o q t s K = (stepOpF c t s o).bind fun p => K p.1 p.2 := by
  cases o with
  | move x => show evQ x t (fun v => K v s) = _; rw [evQ_eq]; rfl
  | load a => show evQ a t (fun v => loadQ v s K) = _; rw [evQ_eq]; exact load_eq t s a K
  | bin op x y => show (evQ x t fun a => evQ y t fun b => binQ a b op fun v => K v s) = _; rw [evQ_eq, evQ_eq]; exact bin_eq t s op x y K
  | lenSl x => show evQ x t (fun v => lenQ v s K) = _; rw [evQ_eq]; exact len_eq' t s x K
  | iaddr z x i => show (evQ x t fun v => evQ i t fun j => idxQ j fun i => iaddrQ v i z fun u => K u s) = _; rw [evQ_eq, evQ_eq]; exact iaddr_eq t s z x i K
  | faddr off x => show (evQ x t fun v => faddrQ off v fun u => K u s) = _; rw [evQ_eq]; exact faddr_eq t s off x K
  | field off x => show (evQ x t fun v => aggQ v off fun u => K u s) = _; rw [evQ_eq]; exact agg_eq t s off x K
  | extract i x => show (evQ x t fun v => tupQ v i fun u => K u s) = _; rw [evQ_eq]; exact tup_eq t s i x K
  | call f args => show (evsQ args t [] fun l => q f l s K) = _; rw [evsQ_eq]; exact h _ _ _ _
  | callv x args => show (evsQ args t [] fun l => evQ x t fun v => callvQ v q l s K) = _; rw [evsQ_eq, evQ_eq]; exact callv_eq h t s x args K
  | mapEntry => rfl
  | entryStore => rfl
  | delete => rfl
  | bad => rfl
  | _ => exact Eq.trans (b := genQ (stepOpF c t s _) K) rfl (genQ_eq _ _)
end Go.Ev
end

section
set_option linter.unusedSimpArgs false
set_option linter.unusedVariables false
namespace Go.Ev
open Go _root_.Ev Go.RowKit

theorem wantQ_eq (g : Option (Nat × Bool)) (t : T Value) (A B : R) : wantQ g t A B = (match wanted t g with | true => A | false => B) := by
  cases g with
  | none => rfl
  | some p =>
    obtain ⟨j, w⟩ := p
    simp only [wanted]
    show Option.rec (motive := fun _ => Bool → R → R → R) (fun _ _ B => B) _ (getQ t j) w A B = _
    rw [getQ_eq]
    cases t.get j with
    | none => rfl
    | some v =>
      cases v with
      | bool b => cases w <;> cases b <;> rfl
      | _ => rfl

theorem runOpsQ_eq {q : CallQ} {c : CallF} (h : CallSame q c) (K : T Value → St → R) : ∀ (l : List CE) (t : T Value) (s : St), runOpsQ l q t s K = (runOps c l t s).bind fun p => K p.1 p.2
  | [], t, s => rfl
  | e :: r, t, s => by
    obtain ⟨dst, op, guard⟩ := e
    show wantQ guard t (stepQ op q t s fun v s' => putQ dst v t fun t' => runOpsQ r q t' s' K) (putQ dst undefV t fun t' => runOpsQ r q t' s K) = _
    simp only [runOps, forceT_eq, forceV_eq, forceS_eq]
    rw [wantQ_eq, stepQ_eq h]
    simp only [putQ_eq, runOpsQ_eq h K r]
    cases wanted t guard with
    | true => simp only []; cases stepOpF c t s op <;> rfl
    | false => rfl

theorem runDrawQ_eq {q : CallQ} {c : CallF} (h : CallSame q c) (K : T Value → St → R) : ∀ (l : List (CE × Nat)) (k : Nat) (opens : List Open) (t : T Value) (s : St), runDrawQ l q k opens t s K = (runDraw c l k opens t s).bind fun p => K p.1 p.2
  | [], k, opens, t, s => rfl
  | (e, hi) :: r, k, opens, t, s => by
    obtain ⟨dst, op, guard⟩ := e
    show wantQ guard t
        (stepQ op q t s fun v s' => putQ dst v t fun t' =>
          Cls.rec (motive := fun _ => R) (runDrawQ r q k opens t' s' K) (runDrawQ r q k (.read t op v hi :: opens) t' s' K)
            (madeQ s' s k hi opens fun opens => runDrawQ r q k opens t' s' K)
            (Bool.rec (motive := fun _ => R) none (runDrawQ r q (Nat.succ k) opens t' s' K) (holdAll s' (Nat.succ k) opens)) op.cls)
        (putQ dst undefV t fun t' => Cls.rec (motive := fun _ => R) (runDrawQ r q k opens t' s K) (runDrawQ r q k opens t' s K) (runDrawQ r q k opens t' s K) (runDrawQ r q (Nat.succ k) opens t' s K) op.cls) = _
    simp only [runDraw, forceT_eq, forceV_eq, forceS_eq]
    rw [wantQ_eq, stepQ_eq h]
    simp only [putQ_eq, runDrawQ_eq h K r, madeQ, someQ_eq]
    cases wanted t guard with
    | true =>
      simp only []
      cases stepOpF c t s op with
      | none => rfl
      | some p =>
        obtain ⟨v, s'⟩ := p
        simp only [Option.bind_some]
        cases op.cls with
        | pure => rfl
        | read => rfl
        | make =>
          simp only []
          cases s'.obj s.nextId with
          | none => rfl
          | some o =>
            simp only [Option.bind_some]
            cases holdAll s' k opens <;> rfl
        | eff =>
          simp only []
          cases holdAll s' (Nat.succ k) opens <;> rfl
    | false => simp only []; cases op.cls <;> rfl

theorem initQ_eq (K : T Value → R) : ∀ (l : List Value) (i : Nat) (t : T Value), initQ l i t K = K (initT l i t)
  | [], i, t => rfl
  | v :: l, i, t => by
    show (frcQ (setQ v t i) fun t' => initQ l (Nat.succ i) t' K) = _
    rw [frcQ_eq, setQ_eq, initQ_eq K l]; rfl

theorem resF_one (t : T Value) (s : St) (r : CRes) (rs : List CRes) : resF t s (r :: rs) = (resF t s [r]).bind fun vs => (resF t s rs).map fun us => vs ++ us := by
  simp only [resF]
  split
  · rename_i h; rfl
  · rename_i v h
    simp only [Option.bind_some]
    cases resF t s rs <;> rfl

theorem hdQ_eq (v : Value) (K : KV) : hdQ [v] K = K v := forceQ_eq v K

theorem resQ_eq (t : T Value) (s : St) (K : List Value → R) : ∀ (l : List CRes) (acc : List Value), resQ l t s acc K = (resF t s l).bind fun vs => K (acc.reverse ++ vs)
  | [], acc => by
    show K (revQ acc []) = _
    rw [revQ_eq]; rfl
  | r :: l, acc => by
    rw [resF_one]
    cases r with
    | tmp n =>
      show (evQ (.t n) t fun v => resQ l t s (v :: acc) K) = _
      rw [evQ_eq, resQ_eq t s K l]
      simp only [resF, Option.bind_some, List.reverse_cons, List.append_assoc]
      cases resF t s l <;> rfl
    | cell a =>
      show (someQ (resF t s [.cell a]) fun vs => hdQ vs fun v => resQ l t s (v :: acc) K) = _
      rw [someQ_eq]
      simp only [resF]
      split
      · rfl
      · rename_i v h
        simp only [Option.bind_some, hdQ_eq]
        rw [resQ_eq t s K l]
        simp only [List.reverse_cons, List.append_assoc]
        cases resF t s l <;> rfl
    | cells n a =>
      show (someQ (resF t s [.cells n a]) fun vs => hdQ vs fun v => resQ l t s (v :: acc) K) = _
      rw [someQ_eq]
      simp only [resF]
      split
      · rfl
      · rename_i v h
        simp only [Option.bind_some, hdQ_eq]
        rw [resQ_eq t s K l]
        simp only [List.reverse_cons, List.append_assoc]
        cases resF t s l <;> rfl

def CodeSame (q : CodeQ) (c : CCode → T Value → St → Option (Ex × T Value × St)) : Prop := ∀ x t s K, q x t s K = (c x t s).bind fun p => K p.1 p.2.1 p.2.2

theorem callQ_eq {prog : Nat → Option CFunc} {q : CodeQ} {c : CCode → T Value → St → Option (Ex × T Value × St)} (h : CodeSame q c) : CallSame (callQ prog q) (callWith prog c) := by
  intro f args s K
  unfold callQ callWith
  cases prog f with
  | none => rfl
  | some fn =>
    obtain ⟨nt, res, body⟩ := fn
    show Bool.rec (motive := fun _ => R) none (initQ args 0 .nil fun t => q body t s fun ex t' s' =>
      Ex.rec (motive := fun _ => R) (resQ res t' s' [] fun vs => K (retV vs) s') (fun _ => none) (resQ res t' s' [] fun vs => K (retV vs) s') ex) (okArgs nt args) = _
    simp only []
    cases okArgs nt args with
    | false => rfl
    | true =>
    show (initQ args 0 .nil fun t => q body t s fun ex t' s' =>
      Ex.rec (motive := fun _ => R) (resQ res t' s' [] fun vs => K (retV vs) s') (fun _ => none) (resQ res t' s' [] fun vs => K (retV vs) s') ex) = _
    rw [initQ_eq, h]
    simp only []
    cases c body (initT args 0 .nil) s with
    | none => rfl
    | some p =>
      obtain ⟨ex, t', s'⟩ := p
      simp only [Option.bind_some]
      cases ex with
      | normal => show (resQ res t' s' [] fun vs => K (retV vs) s') = _; rw [resQ_eq]; simp only []; cases resF t' s' res <;> rfl
      | ret => show (resQ res t' s' [] fun vs => K (retV vs) s') = _; rw [resQ_eq]; simp only []; cases resF t' s' res <;> rfl
      | exit j => rfl

theorem codeQ_eq (prog : Nat → Option CFunc) : ∀ n, CodeSame (codeQ prog n) (evCode prog n)
  | 0 => fun _ _ _ _ => rfl
  | n + 1 => by
    have ih := codeQ_eq prog n
    have hc := callQ_eq (prog := prog) ih
    intro c t s K
    cases c with
    | skip => rfl
    | reg ops =>
      show (runOpsQ ops (callQ prog (codeQ prog n)) t s fun t' s' => K .normal t' s') = _
      rw [runOpsQ_eq hc]
      simp only [evCode]
      cases runOps (callWith prog (evCode prog n)) ops t s <;> rfl
    | draw ops =>
      show (runDrawQ ops (callQ prog (codeQ prog n)) 0 [] t s fun t' s' => K .normal t' s') = _
      rw [runDrawQ_eq hc]
      simp only [evCode]
      cases runDraw (callWith prog (evCode prog n)) ops 0 [] t s <;> rfl
    | seq a b =>
      show (codeQ prog n a t s fun ex t' s' => Ex.rec (motive := fun _ => R) (codeQ prog n b t' s' K) (fun j => K (.exit j) t' s') (K .ret t' s') ex) = _
      rw [ih]
      simp only [evCode]
      cases evCode prog n a t s with
      | none => rfl
      | some p =>
        obtain ⟨ex, t', s'⟩ := p
        cases ex with
        | normal => exact ih b t' s' K
        | _ => rfl
    | cond x a b =>
      show (evQ x t fun v => condQ v a b (codeQ prog n) t s K) = _
      rw [evQ_eq]
      simp only [evCode]
      generalize x.ev t = v
      cases v with
      | bool z =>
        cases z with
        | true => exact ih a t s K
        | false => exact ih b t s K
      | _ => rfl
    | block id a =>
      show (codeQ prog n a t s fun ex t' s' => Ex.rec (motive := fun _ => R) (K .normal t' s') (fun j => Bool.rec (motive := fun _ => R) (K (.exit j) t' s') (K .normal t' s') (Nat.beq j id)) (K .ret t' s') ex) = _
      rw [ih]
      simp only [evCode]
      cases evCode prog n a t s with
      | none => rfl
      | some p =>
        obtain ⟨ex, t', s'⟩ := p
        cases ex with
        | exit j => simp only [Option.bind_some]; cases Nat.beq j id <;> rfl
        | _ => rfl
    | loop a =>
      show (codeQ prog n a t s fun ex t' s' => Ex.rec (motive := fun _ => R) (codeQ prog n (.loop a) t' s' K) (fun j => K (.exit j) t' s') (K .ret t' s') ex) = _
      rw [ih]
      simp only [evCode]
      cases evCode prog n a t s with
      | none => rfl
      | some p =>
        obtain ⟨ex, t', s'⟩ := p
        cases ex with
        | normal => exact ih (.loop a) t' s' K
        | _ => rfl
    | exit id => rfl
    | ret => rfl

/-- A function that takes nothing and says true here says true in every world. -/
theorem saysQ_true {P : Program} (hm : P.follows .mixedOrders = true) {prog : Nat → Option CFunc} (hp : ProgOk P prog) {n f : Nat} (h : saysQ prog n f = true) (w : World) :
    Calls P f #[] w fun e w' => e = .returned (.bool true) ∧ Below w.heap.size w w' := by
  unfold saysQ at h
  rw [callQ_eq (codeQ_eq prog n)] at h
  have e : (callWith prog (evCode prog n) f [] (.mk .nil 0 .nil)).bind (fun p => some (p.1, p.2)) = evCall prog n f [] (.mk .nil 0 .nil) := by
    unfold evCall
    cases callWith prog (evCode prog n) f [] (.mk .nil 0 .nil) <;> rfl
  rw [e] at h
  refine says hm hp (n := n) ?_ w
  unfold evTrueQ at h
  unfold evTrue
  split at h
  · rename_i b s' he; rw [he]; exact h
  · cases h
end Go.Ev
end
