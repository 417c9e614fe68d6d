/- How the abstract heap and a world belong together; operations. -/
import Derived.Test.YtehpiiimckodmaaEv0
import Derived.Below
import Derived.Laws.Cells
import Derived.Laws.IdiomCopy
import Derived.Laws.Strings
import Derived.ChangeKeysEq
import Derived.WideKeyRuns
import Derived.Lib.Strings
set_option linter.unusedVariables false
set_option linter.unusedSimpArgs false
section
namespace Go.Ev
open Go _root_.Ev

/-! ### the small words say what their names say -/

theorem app_eq {α : Type} (xs ys : List α) : app xs ys = xs ++ ys := by
  induction xs with
  | nil => rfl
  | cons x xs ih => simp only [app, ih]; cases h : xs ++ ys <;> simp_all

theorem nth_eq {α : Type} (xs : List α) : ∀ i, nth xs i = xs[i]? := by
  induction xs with
  | nil => intro i; simp [nth]
  | cons x xs ih => intro i; cases i <;> simp [nth, ih]

theorem len_eq {α : Type} (xs : List α) : ∀ n, len xs n = xs.length + n := by
  induction xs with
  | nil => intro n; simp [len]
  | cons x xs ih => intro n; simp only [len, ih, List.length_cons]; omega

theorem cut_some {α : Type} : ∀ (xs : List α) (o n : Nat) (r : List α), cut xs o n = some r → o + n ≤ xs.length ∧ r = (xs.drop o).take n := by
  intro xs
  induction xs with
  | nil =>
    intro o n r h
    cases o <;> cases n <;> simp [cut] at h
    exact ⟨by simp, by simp [h]⟩
  | cons x xs ih =>
    intro o n r h
    cases o with
    | zero =>
      cases n with
      | zero => simp [cut] at h; exact ⟨by simp, by simp [h]⟩
      | succ n =>
        simp only [cut] at h
        cases hc : cut xs 0 n with
        | none => simp [hc] at h
        | some r' =>
          simp only [hc, Option.some.injEq] at h
          obtain ⟨h1, h2⟩ := ih 0 n r' hc
          subst h
          exact ⟨by simp; omega, by simp [h2]⟩
    | succ o =>
      simp only [cut] at h
      obtain ⟨h1, h2⟩ := ih o n r h
      exact ⟨by simp; omega, by simp [h2]⟩

theorem spl_some {α : Type} : ∀ (cs : List α) (o : Nat) (vs r : List α), spl cs o vs = some r → o + vs.length ≤ cs.length ∧ r.length = cs.length ∧ (∀ i, r[i]? = if o ≤ i ∧ i < o + vs.length then vs[i - o]? else cs[i]?) := by
  intro cs
  induction cs with
  | nil =>
    intro o vs r h
    cases o <;> cases vs <;> simp [spl] at h
    subst h
    exact ⟨by simp, rfl, fun i => by simp⟩
  | cons c cs ih =>
    intro o vs r h
    cases o with
    | zero =>
      cases vs with
      | nil => simp [spl] at h; subst h; exact ⟨by simp, rfl, fun i => by simp⟩
      | cons v vs =>
        simp only [spl] at h
        cases hc : spl cs 0 vs with
        | none => simp [hc] at h
        | some r' =>
          simp only [hc, Option.some.injEq] at h
          obtain ⟨h1, h2, h3⟩ := ih 0 vs r' hc
          subst h
          refine ⟨by simp at h1 ⊢; omega, by simp [h2], fun i => ?_⟩
          cases i with
          | zero => simp
          | succ i =>
            have := h3 i
            simp only [List.getElem?_cons_succ, this, List.length_cons]
            by_cases hi : i < vs.length
            · rw [if_pos (by omega), if_pos (by omega)]; simp
            · rw [if_neg (by omega), if_neg (by omega)]
    | succ o =>
      simp only [spl] at h
      cases hc : spl cs o vs with
      | none => simp [hc] at h
      | some r' =>
        simp only [hc, Option.some.injEq] at h
        obtain ⟨h1, h2, h3⟩ := ih o vs r' hc
        subst h
        refine ⟨by simp; omega, by simp [h2], fun i => ?_⟩
        cases i with
        | zero => rw [if_neg (by omega)]; simp
        | succ i =>
          have := h3 i
          simp only [List.getElem?_cons_succ, this]
          by_cases hi : o ≤ i ∧ i < o + vs.length
          · rw [if_pos hi, if_pos (by omega)]; congr 1; omega
          · rw [if_neg hi, if_neg (by omega)]

theorem beqF_eq (a b : Int) : Int.beqF a b = decide (a = b) := by
  cases a <;> cases b <;> rw [Bool.eq_iff_iff] <;> simp [Int.beqF] <;> omega

theorem ltF_eq (a b : Int) : Int.ltF a b = decide (a < b) := by
  cases a <;> cases b <;> rw [Bool.eq_iff_iff] <;> simp [Int.ltF] <;> omega

theorem wrapF_eq (k : IntKind) (n : Int) : wrapF k n = k.wrap n := by
  unfold wrapF
  cases n with
  | ofNat m =>
    simp only []
    cases h : Nat.ble m (topOf k) with
    | false => rfl
    | true =>
      have := Nat.le_of_ble_eq_true h
      cases k <;> simp only [topOf] at this <;> simp only [IntKind.wrap, IntKind.bits, IntKind.signed] <;> simp <;> omega
  | negSucc m =>
    simp only []
    cases h : Nat.ble (Nat.succ m) (botOf k) with
    | false => rfl
    | true =>
      have := Nat.le_of_ble_eq_true h
      cases k <;> simp only [botOf] at this <;> simp only [IntKind.wrap, IntKind.bits, IntKind.signed] <;> simp <;> omega

theorem mkInt_eq (k : IntKind) (n : Int) : mkInt k n = .int k (k.wrap n) := by
  unfold mkInt
  rw [wrapF_eq]
  cases k.wrap n <;> rfl

theorem boolXor_eq (a b : Bool) : boolXor a b = (a != b) := by cases a <;> cases b <;> rfl

theorem epAt_set (ep : T Nat) (g e g' : Nat) : epAt (ep.set g e) g' = if g' = g then e else epAt ep g' := by
  unfold epAt
  rw [T.get_set]
  by_cases h : g' = g <;> simp [h]

/-! ### values -/

/-- Where an abstract block lies: block, shift, the block's size, the size of its items. -/
structure Pl where
  b : Nat
  sh : Nat
  tot : Nat
  z : Nat

abbrev Bl := Nat → Option Pl

def Bl.le (β β' : Bl) : Prop := ∀ A x, β A = some x → β' A = some x
theorem Bl.le_refl (β : Bl) : β.le β := fun _ _ h => h
theorem Bl.le_trans {a b c : Bl} (h : a.le b) (k : b.le c) : a.le c := fun A x hx => k A x (h A x hx)

mutual
inductive VR (β : Bl) : Value → Value → Prop
  | bool (b : Bool) : VR β (.bool b) (.bool b)
  | int (k : IntKind) (n : Int) : VR β (.int k n) (.int k n)
  | string (s : ByteArray) : VR β (.string s) (.string s)
  | ptrNil : VR β (.pointer none) (.pointer none)
  | ptr (A : Nat) (p : Pl) (o : Nat) (h : β A = some p) : VR β (.pointer (some ⟨A, o, none⟩)) (.pointer (some ⟨p.b, p.sh + o, none⟩))
  | sliceNil : VR β (.slice none 0 0) (.slice none 0 0)
  | slice (A : Nat) (p : Pl) (o n c c' : Nat) (h : β A = some p) (hn : n ≤ c) (hc : c ≤ c') (ht : p.sh + o + c' * p.z ≤ p.tot) : VR β (.slice (some ⟨A, o, none⟩) n c) (.slice (some ⟨p.b, p.sh + o, none⟩) n c')
  | sliceE (A o : Nat) (a : Addr) : VR β (.slice (some ⟨A, o, none⟩) 0 0) (.slice (some a) 0 0)
  | mapNil : VR β (.map none) (.map none)
  | map (A : Nat) (p : Pl) (h : β A = some p) : VR β (.map (some A)) (.map (some p.b))
  | nilFunc : VR β .nilFunc .nilFunc
  | func (fn : Fn) (a b a' b' : List Value) (ha : VRs β a a') (hb : VRs β b b') : VR β (.func fn ⟨a⟩ ⟨b⟩) (.func fn ⟨a'⟩ ⟨b'⟩)
  | nilIface : VR β .nilIface .nilIface
  | agg (a a' : List Value) (ha : VRs β a a') : VR β (.agg ⟨a⟩) (.agg ⟨a'⟩)
  | tuple (a a' : List Value) (ha : VRs β a a') : VR β (.tuple ⟨a⟩) (.tuple ⟨a'⟩)
inductive VRs (β : Bl) : List Value → List Value → Prop
  | nil : VRs β [] []
  | cons (x x' : Value) (xs xs' : List Value) (h : VR β x x') (hs : VRs β xs xs') : VRs β (x :: xs) (x' :: xs')
end

mutual
theorem VR.mono {β β' : Bl} (hle : β.le β') : ∀ {x x' : Value}, VR β x x' → VR β' x x'
  | _, _, .bool b => .bool b
  | _, _, .int k n => .int k n
  | _, _, .string s => .string s
  | _, _, .ptrNil => .ptrNil
  | _, _, .ptr A p o h => .ptr A p o (hle _ _ h)
  | _, _, .sliceNil => .sliceNil
  | _, _, .slice A p o n c c' h hn hc ht => .slice A p o n c c' (hle _ _ h) hn hc ht
  | _, _, .sliceE A o a => .sliceE A o a
  | _, _, .mapNil => .mapNil
  | _, _, .map A p h => .map A p (hle _ _ h)
  | _, _, .nilFunc => .nilFunc
  | _, _, .func fn a b a' b' ha hb => .func fn a b a' b' (VRs.mono hle ha) (VRs.mono hle hb)
  | _, _, .nilIface => .nilIface
  | _, _, .agg a a' ha => .agg a a' (VRs.mono hle ha)
  | _, _, .tuple a a' ha => .tuple a a' (VRs.mono hle ha)
theorem VRs.mono {β β' : Bl} (hle : β.le β') : ∀ {x x' : List Value}, VRs β x x' → VRs β' x x'
  | _, _, .nil => .nil
  | _, _, .cons x x' xs xs' h hs => .cons x x' xs xs' (VR.mono hle h) (VRs.mono hle hs)
end

section
variable {β : Bl}

theorem VRs.length : ∀ {xs xs' : List Value}, VRs β xs xs' → xs.length = xs'.length
  | _, _, .nil => rfl
  | _, _, .cons _ _ _ _ _ hs => by simp [VRs.length hs]

theorem VRs.get : ∀ {xs xs' : List Value} (_ : VRs β xs xs') {i : Nat} {v : Value}, xs[i]? = some v → ∃ v', xs'[i]? = some v' ∧ VR β v v'
  | _, _, .nil, i, v, h => by simp at h
  | _, _, .cons x x' xs xs' hx hs, i, v, h => by
    cases i with
    | zero => simp at h; subst h; exact ⟨x', by simp, hx⟩
    | succ i => simp at h; obtain ⟨v', h1, h2⟩ := VRs.get hs h; exact ⟨v', by simpa using h1, h2⟩

theorem VRs.of_get : ∀ {xs xs' : List Value}, xs.length = xs'.length → (∀ (i : Nat) (v v' : Value), xs[i]? = some v → xs'[i]? = some v' → VR β v v') → VRs β xs xs'
  | [], [], _, _ => .nil
  | x :: xs, x' :: xs', hl, h => .cons _ _ _ _ (h 0 x x' rfl rfl) (VRs.of_get (by simpa using hl) fun i v v' a b => h (i + 1) v v' (by simpa using a) (by simpa using b))

theorem VRs.append : ∀ {xs xs' ys ys' : List Value}, VRs β xs xs' → VRs β ys ys' → VRs β (xs ++ ys) (xs' ++ ys')
  | _, _, _, _, .nil, h => h
  | _, _, _, _, .cons x x' xs xs' hx hs, h => .cons _ _ _ _ hx (VRs.append hs h)

theorem VRs.drop : ∀ {xs xs' : List Value} (n : Nat), VRs β xs xs' → VRs β (xs.drop n) (xs'.drop n)
  | _, _, 0, h => h
  | _, _, n + 1, .nil => .nil
  | _, _, n + 1, .cons _ _ _ _ _ hs => by simpa using VRs.drop n hs

theorem VRs.take : ∀ {xs xs' : List Value} (n : Nat), VRs β xs xs' → VRs β (xs.take n) (xs'.take n)
  | _, _, 0, h => by simp; exact .nil
  | _, _, n + 1, .nil => by simp; exact .nil
  | _, _, n + 1, .cons _ _ _ _ hx hs => by simpa using VRs.cons _ _ _ _ hx (VRs.take n hs)

theorem plain1_refl {v : Value} (h : plain1 v = true) : VR β v v := by
  cases v with
  | bool b => exact .bool b
  | int k n => exact .int k n
  | string s => exact .string s
  | pointer a => cases a <;> simp [plain1] at h; exact .ptrNil
  | slice a n c =>
    cases a with
    | none => cases n <;> cases c <;> simp [plain1] at h; exact .sliceNil
    | some a => simp [plain1] at h
  | map r => cases r <;> simp [plain1] at h; exact .mapNil
  | func fn a b =>
    cases fn <;> simp [plain1] at h
    obtain ⟨rfl, rfl⟩ := h
    exact .func _ [] [] [] [] .nil .nil
  | nilFunc => exact .nilFunc
  | nilIface => exact .nilIface
  | _ => simp [plain1] at h

theorem plains_refl : ∀ {l : List Value}, l.all plain1 = true → VRs β l l
  | [], _ => .nil
  | v :: l, h => by
    simp only [List.all_cons, Bool.and_eq_true] at h
    exact .cons _ _ _ _ (plain1_refl h.1) (plains_refl h.2)

theorem plainV_refl {v : Value} (h : plainV v = true) : VR β v v := by
  cases v with
  | agg cs =>
    obtain ⟨l⟩ := cs
    exact .agg l l (plains_refl (by simpa [plainV] using h))
  | _ => exact plain1_refl (by simpa [plainV] using h)

theorem VR.undef : VR β undefV undef := .tuple [] [] .nil

/-- Temporaries. -/
def TR (β : Bl) (t : T Value) (a : Array Value) : Prop := ∀ k, VR β (match t.get k with | some v => v | none => undefV) (a.getD k undef)

theorem TR.mono {β' : Bl} {t : T Value} {a : Array Value} (h : TR β t a) (hle : β.le β') : TR β' t a := fun k => (h k).mono hle

theorem TR.put {t : T Value} {a : Array Value} (h : TR β t a) {d : Option Nat} (hd : ∀ k, d = some k → k < a.size) {v v' : Value} (hv : VR β v v') :
    TR β (put t d v) (match d with | some d => a.setIfInBounds d v' | none => a) := by
  cases d with
  | none => exact h
  | some d =>
    intro k
    simp only [Ev.put, T.get_set]
    have hlt := hd d rfl
    by_cases e : k = d
    · subst e
      simp [hlt, hv]
    · have := h k
      simp only [e, if_false]
      simpa [Array.getElem?_setIfInBounds_ne (Ne.symm e)] using this

theorem cOpd_eval {x : Operand} {y : Opd} (h : cOpd x = some y) {t : T Value} {a : Act} (ht : TR β t a.tmps) : VR β (y.ev t) (a.eval x) := by
  cases x with
  | tmp n => simp [cOpd] at h; subst h; exact ht n
  | const v =>
    simp only [cOpd] at h
    split at h
    · rename_i hp; simp at h; subst h; exact plainV_refl hp
    · simp at h
  | global g => simp [cOpd] at h
  | func f => simp [cOpd] at h; subst h; exact .func _ [] [] [] [] .nil .nil

theorem cOpds_eval : ∀ {xs : List Operand} {ys : List Opd}, cOpds xs = some ys → ∀ {t : T Value} {a : Act}, TR β t a.tmps → VRs β (evs t ys) (xs.map a.eval)
  | [], ys, h, t, a, _ => by simp [cOpds] at h; subst h; exact .nil
  | x :: xs, ys, h, t, a, ht => by
    simp only [cOpds] at h
    cases h1 : cOpd x with
    | none => simp [h1] at h
    | some y =>
      cases h2 : cOpds xs with
      | none => simp [h1, h2] at h
      | some l =>
        simp only [h1, h2, Option.some.injEq] at h
        subst h
        exact .cons _ _ _ _ (cOpd_eval h1 ht) (cOpds_eval h2 ht)
end

end Go.Ev
end

section
namespace Go.Ev
open Go _root_.Ev Go.RowKit

def St.eps (s : St) : T Nat := match s with | .mk _ _ ep => ep

def AObj.mine : AObj → Bool
  | .row _ _ _ _ (some _) => false
  | _ => true

/-- 'o'' is an elder version of 'o'. -/
def Elder (ep : T Nat) (o o' : AObj) (p p' : Pl) : Prop :=
  ∃ e z cs g e' z' cs' k, o = .row e z cs (some g) none ∧ o' = .row e' z' cs' (some g) (some k) ∧ k ≤ epAt ep g ∧ (k = epAt ep g → p'.sh + cs'.length ≤ p.sh + cs.length)

inductive ER (β : Bl) : List (Value × Value × Nat) → List MapEntry → Prop
  | nil : ER β [] []
  | cons (k v v' : Value) (b : Nat) (es : List (Value × Value × Nat)) (es' : List MapEntry) (hv : VR β v v') (h : ER β es es') : ER β ((k, v, b) :: es) (⟨k, v', b⟩ :: es')

theorem ER.mono {β β' : Bl} (hle : β.le β') : ∀ {x : List (Value × Value × Nat)} {x' : List MapEntry}, ER β x x' → ER β' x x'
  | _, _, .nil => .nil
  | _, _, .cons k v v' b es es' hv h => .cons k v v' b es es' (hv.mono hle) (ER.mono hle h)

/-- The object and its block. -/
def OR (β : Bl) (ep : T Nat) (o : AObj) (p : Pl) (w : World) : Prop :=
  match o with
  | .row _ z cs g old => p.z = z ∧ (readable ep g old = true → ∃ c el fz, w.heap[p.b]? = some (.cells c el fz) ∧ c.size = p.tot ∧ p.sh + cs.length ≤ p.tot ∧
      (∀ (i : Nat) (v : Value), cs[i]? = some v → ∃ v', c[p.sh + i]? = some v' ∧ VR β v v') ∧ (old = none → ∀ j, p.sh ≤ j → j < p.tot → ¬ (fz.1 ≤ j ∧ j < fz.2)))
  | .map es clock => ∃ es', w.heap[p.b]? = some (.map es' clock) ∧ ER β es es'.toList
  | .siter l pos => p.sh = 0 ∧ w.heap[p.b]? = some (.stringIter ⟨⟨l⟩⟩ pos)

theorem OR.mono {β β' : Bl} (hle : β.le β') {ep : T Nat} {o : AObj} {p : Pl} {w : World} (h : OR β ep o p w) : OR β' ep o p w := by
  cases o with
  | row e z cs g old =>
    refine ⟨h.1, fun hr => ?_⟩
    obtain ⟨c, el, fz, h1, h2, h3, h4, h5⟩ := h.2 hr
    exact ⟨c, el, fz, h1, h2, h3, fun i v hv => let ⟨v', a, b⟩ := h4 i v hv; ⟨v', a, b.mono hle⟩, h5⟩
  | map es c => obtain ⟨es', h1, h2⟩ := h; exact ⟨es', h1, h2.mono hle⟩
  | siter l p => exact h

/-- The block itself unchanged: the object still fits. -/
theorem OR.of_block {β : Bl} {ep : T Nat} {o : AObj} {p : Pl} {w w' : World} (h : OR β ep o p w) (hb : w'.heap[p.b]? = w.heap[p.b]?) : OR β ep o p w' := by
  cases o with
  | row e z cs g old =>
    refine ⟨h.1, fun hr => ?_⟩
    obtain ⟨c, el, fz, h1, rest⟩ := h.2 hr
    exact ⟨c, el, fz, hb.trans h1, rest⟩
  | map es c => obtain ⟨es', h1, h2⟩ := h; exact ⟨es', hb.trans h1, h2⟩
  | siter l p => exact ⟨h.1, hb.trans h.2⟩

structure WR (base : Nat) (w0 : World) (β : Bl) (s : St) (w : World) : Prop where
  below : Below base w0 w
  hb : base ≤ w.heap.size
  dom : ∀ A p, β A = some p → A < s.nextId ∧ p.b < w.heap.size ∧ ∃ o, s.obj A = some o
  rel : ∀ A p o, β A = some p → s.obj A = some o → OR β s.eps o p w
  fresh : ∀ A, s.nextId ≤ A → s.obj A = none
  eld : ∀ A e z cs g k, s.obj A = some (.row e z cs (some g) (some k)) → k ≤ epAt s.eps g
  own : ∀ A p o, β A = some p → s.obj A = some o → o.mine = true →
    base ≤ p.b ∧ ∀ A' p' o', A' ≠ A → β A' = some p' → p'.b = p.b → s.obj A' = some o' → Elder s.eps o o' p p'

section
variable {base : Nat} {w0 : World} {β : Bl} {s : St} {w : World}

theorem WR.of_heap {w' : World} (h : WR base w0 β s w) (hh : w'.heap = w.heap) (ho : w'.os = w.os) (ht : w'.tape = w.tape) (hout : w'.output = w.output) : WR base w0 β s w' := by
  refine ⟨⟨ho.trans h.below.os, ht.trans h.below.tape, hout.trans h.below.output, by rw [hh]; exact h.below.size, fun k hk => by rw [hh]; exact h.below.block k hk⟩,
    by rw [hh]; exact h.hb, fun A p hA => by rw [hh]; exact h.dom A p hA, fun A p o hA ho' => (h.rel A p o hA ho').of_block (by rw [hh]), h.fresh, h.eld, h.own⟩

theorem obj_new (s : St) (o : AObj) (A : Nat) : (s.new o).2.obj A = if A = s.nextId then some o else s.obj A := by
  cases s with | mk h nx ep => show (h.set nx o).get A = _; rw [T.get_set]; rfl
theorem next_new (s : St) (o : AObj) : (s.new o).2.nextId = s.nextId + 1 := by cases s; rfl
theorem eps_new (s : St) (o : AObj) : (s.new o).2.eps = s.eps := by cases s; rfl
theorem id_new (s : St) (o : AObj) : (s.new o).1 = s.nextId := by cases s; rfl

/-- The map of blocks with one more. -/
def Bl.add (β : Bl) (A : Nat) (p : Pl) : Bl := fun B => if B = A then some p else β B

theorem WR.none_next (h : WR base w0 β s w) : β s.nextId = none := by
  cases hb : β s.nextId with
  | none => rfl
  | some p => exact absurd (h.dom _ _ hb).1 (Nat.lt_irrefl _)

theorem WR.le_add (h : WR base w0 β s w) (p : Pl) : β.le (β.add s.nextId p) := fun A x hA => by
  unfold Bl.add
  by_cases e : A = s.nextId
  · subst e; rw [h.none_next] at hA; cases hA
  · simp [e, hA]

theorem Below.push (h : Below base w0 w) (hb : base ≤ w.heap.size) {w' : World} {o : Obj} (hh : w'.heap = w.heap.push o) (ho : w'.os = w.os) (ht : w'.tape = w.tape) (hout : w'.output = w.output) : Below base w0 w' := by
  refine ⟨ho.trans h.os, ht.trans h.tape, hout.trans h.output, by rw [hh]; simp; have := h.size; omega, fun k hk => ?_⟩
  rw [hh, Array.getElem?_push, if_neg (by omega)]
  exact h.block k hk

theorem eld_new (h : ∀ A e z cs g k, s.obj A = some (.row e z cs (some g) (some k)) → k ≤ epAt s.eps g) {o : AObj} (hm : o.mine = true) :
    ∀ A e z cs g k, (s.new o).2.obj A = some (.row e z cs (some g) (some k)) → k ≤ epAt (s.new o).2.eps g := by
  intro A e z cs g k ho
  rw [obj_new] at ho
  rw [eps_new]
  by_cases e : A = s.nextId
  · rw [if_pos e] at ho; cases ho; cases hm
  · rw [if_neg e] at ho; exact h _ _ _ _ _ _ ho

/-- A new object, and the machine's new block. -/
theorem WR.alloc (h : WR base w0 β s w) {o : AObj} {p : Pl} {w' : World} {ob : Obj} (hp : p.b = w.heap.size) (hh : w'.heap = w.heap.push ob) (hos : w'.os = w.os) (ht : w'.tape = w.tape) (hout : w'.output = w.output)
    (ho : OR (β.add s.nextId p) s.eps o p w') (hm : o.mine = true) : WR base w0 (β.add s.nextId p) (s.new o).2 w' := by
  have hle := h.le_add p
  have hold : ∀ A, A ≠ s.nextId → (β.add s.nextId p) A = β A := fun A hA => by simp [Bl.add, hA]
  have hnew : (β.add s.nextId p) s.nextId = some p := by simp [Bl.add]
  have hblk : ∀ k, k < w.heap.size → w'.heap[k]? = w.heap[k]? := fun k hk => by rw [hh, Array.getElem?_push, if_neg (by omega)]
  have hsz : w'.heap.size = w.heap.size + 1 := by rw [hh]; simp
  refine ⟨Below.push h.below h.hb hh hos ht hout, by have := h.hb; omega, ?_, ?_, ?_, eld_new h.eld hm, ?_⟩
  · intro A q hA
    rw [next_new, obj_new, hsz]
    by_cases e : A = s.nextId
    · subst e; rw [hnew] at hA; cases hA; exact ⟨by omega, by omega, o, by simp⟩
    · rw [hold A e] at hA
      obtain ⟨h1, h2, o', h3⟩ := h.dom A q hA
      exact ⟨by omega, by omega, o', by simp [e, h3]⟩
  · intro A q o' hA ho'
    rw [obj_new] at ho'
    rw [eps_new]
    by_cases e : A = s.nextId
    · subst e; rw [hnew] at hA; cases hA; simp at ho'; subst ho'; exact ho
    · rw [hold A e] at hA
      simp [e] at ho'
      exact ((h.rel A q o' hA ho').of_block (hblk _ (h.dom A q hA).2.1)).mono hle
  · intro A hA
    rw [next_new] at hA
    rw [obj_new, if_neg (by omega)]
    exact h.fresh A (by omega)
  · intro A q o' hA ho' hm
    rw [obj_new] at ho'
    by_cases e : A = s.nextId
    · subst e
      rw [hnew] at hA; cases hA
      refine ⟨by rw [hp]; exact h.hb, fun A' p' o'' hne hA' hbb ho'' => ?_⟩
      rw [hold A' hne] at hA'
      have := (h.dom A' p' hA').2.1
      omega
    · rw [hold A e] at hA
      simp [e] at ho'
      obtain ⟨h1, h2⟩ := h.own A q o' hA ho' hm
      refine ⟨h1, fun A' p' o'' hne hA' hbb ho'' => ?_⟩
      rw [obj_new] at ho''
      rw [eps_new]
      by_cases e' : A' = s.nextId
      · subst e'
        rw [hnew] at hA'; cases hA'
        have := (h.dom A q hA).2.1
        omega
      · rw [hold A' e'] at hA'
        simp [e'] at ho''
        exact h2 A' p' o'' hne hA' hbb ho''

/-- A new object that the machine has not made yet. -/
theorem WR.pre (h : WR base w0 β s w) (o : AObj) (hm : o.mine = true) : WR base w0 β (s.new o).2 w := by
  refine ⟨h.below, h.hb, ?_, ?_, ?_, eld_new h.eld hm, ?_⟩
  · intro A p hA
    obtain ⟨h1, h2, o', h3⟩ := h.dom A p hA
    rw [next_new, obj_new]
    exact ⟨by omega, h2, o', by rw [if_neg (by omega)]; exact h3⟩
  · intro A p o' hA ho'
    have := (h.dom A p hA).1
    rw [obj_new, if_neg (by omega)] at ho'
    rw [eps_new]
    exact h.rel A p o' hA ho'
  · intro A hA
    rw [next_new] at hA
    rw [obj_new, if_neg (by omega)]
    exact h.fresh A (by omega)
  · intro A p o' hA ho' hm
    have := (h.dom A p hA).1
    rw [obj_new, if_neg (by omega)] at ho'
    obtain ⟨h1, h2⟩ := h.own A p o' hA ho' hm
    refine ⟨h1, fun A' p' o'' hne hA' hbb ho'' => ?_⟩
    have := (h.dom A' p' hA').1
    rw [obj_new, if_neg (by omega)] at ho''
    rw [eps_new]
    exact h2 A' p' o'' hne hA' hbb ho''

/-! ### reading -/

theorem cellsOf_row {A : Nat} {cs : List Value} (h : s.cellsOf A = some cs) : ∃ e z g old, s.obj A = some (.row e z cs g old) ∧ readable s.eps g old = true := by
  cases s with | mk hp nx ep =>
  simp only [St.cellsOf] at h
  simp only [St.obj, St.eps]
  cases hg : hp.get A with
  | none => simp [hg] at h
  | some o =>
    cases o with
    | row e z cs' g old =>
      simp only [hg] at h
      cases hr : readable ep g old with
      | false => simp [hr] at h
      | true => simp [hr] at h; subst h; exact ⟨e, z, g, old, rfl, hr⟩
    | map es c => simp [hg] at h
    | siter l p => simp [hg] at h

theorem WR.cells (h : WR base w0 β s w) {A : Nat} {p : Pl} {cs : List Value} (hA : β A = some p) (hc : s.cellsOf A = some cs) :
    ∃ c el fz, w.heap[p.b]? = some (.cells c el fz) ∧ c.size = p.tot ∧ p.sh + cs.length ≤ p.tot ∧ (∀ (i : Nat) (v : Value), cs[i]? = some v → ∃ v', c[p.sh + i]? = some v' ∧ VR β v v') := by
  obtain ⟨e, z, g, old, ho, hr⟩ := cellsOf_row hc
  obtain ⟨c, el, fz, h1, h2, h3, h4, _⟩ := (h.rel A p _ hA ho).2 hr
  exact ⟨c, el, fz, h1, h2, h3, h4⟩

/-- One cell. -/
theorem WR.cell (h : WR base w0 β s w) {A o : Nat} {p : Pl} {cs : List Value} {v : Value} (hA : β A = some p) (hc : s.cellsOf A = some cs) (hv : nth cs o = some v) :
    ∃ v', w.cell? ⟨p.b, p.sh + o, none⟩ = some v' ∧ VR β v v' := by
  obtain ⟨c, el, fz, h1, h2, h3, h4⟩ := h.cells hA hc
  rw [nth_eq] at hv
  obtain ⟨v', h5, h6⟩ := h4 o v hv
  exact ⟨v', by simp [World.cell?, h1, h5], h6⟩

/-- A run of cells. -/
theorem WR.run (h : WR base w0 β s w) {A o n : Nat} {p : Pl} {cs r : List Value} (hA : β A = some p) (hc : s.cellsOf A = some cs) (hr : cut cs o n = some r) :
    ∃ r', r'.length = n ∧ VRs β r r' ∧ ∀ i, i < n → w.cell? ⟨p.b, p.sh + o + i, none⟩ = r'[i]? := by
  obtain ⟨c, el, fz, h1, h2, h3, h4⟩ := h.cells hA hc
  obtain ⟨h5, h6⟩ := cut_some _ _ _ _ hr
  have hlen : r.length = n := by rw [h6]; simp; omega
  refine ⟨(c.toList.drop (p.sh + o)).take n, by simp; omega, VRs.of_get (by rw [hlen]; simp; omega) ?_, fun i hi => ?_⟩
  · intro i v v' hv hv'
    have hi : i < n := by
      rw [List.getElem?_eq_some_iff] at hv
      obtain ⟨hh, _⟩ := hv; omega
    have e1 : cs[o + i]? = some v := by rw [h6] at hv; simpa [List.getElem?_take, hi] using hv
    obtain ⟨v'', h7, h8⟩ := h4 (o + i) v e1
    have e2 : c[p.sh + (o + i)]? = some v' := by
      simp [List.getElem?_take, hi] at hv'
      simpa [Nat.add_assoc] using hv'
    rw [h7] at e2
    cases e2
    exact h8
  · simp only [World.cell?, h1]
    simp [List.getElem?_take, hi]


/-! ### writing -/

theorem write_some {A o : Nat} {vs : List Value} {s' : St} (h : s.write A o vs = some s') :
    ∃ e z cs g cs', s.obj A = some (.row e z cs g none) ∧ spl cs o vs = some cs' ∧ s'.nextId = s.nextId ∧ (∀ B, s'.obj B = if B = A then some (.row e z cs' g none) else s.obj B) ∧
      (∀ k, epAt s'.eps k = if g = some k then epAt s.eps k + 1 else epAt s.eps k) := by
  cases s with | mk hp nx ep =>
  simp only [St.write] at h
  cases hg : hp.get A with
  | none => simp [hg] at h
  | some ob =>
    cases ob with
    | map es c => simp [hg] at h
    | siter l p => simp [hg] at h
    | row e z cs g old =>
      cases old with
      | some k => simp [hg] at h
      | none =>
        simp only [hg] at h
        cases hs : spl cs o vs with
        | none => simp [hs] at h
        | some cs' =>
          simp only [hs] at h
          cases g with
          | none =>
            simp only [Option.some.injEq] at h
            subst h
            exact ⟨e, z, cs, none, cs', hg, hs, rfl, fun B => by show (hp.set A _).get B = _; rw [T.get_set]; rfl, fun k => by simp [St.eps]⟩
          | some g =>
            simp only [Option.some.injEq] at h
            subst h
            refine ⟨e, z, cs, some g, cs', hg, hs, rfl, fun B => by show (hp.set A _).get B = _; rw [T.get_set]; rfl, fun k => ?_⟩
            simp only [St.eps, epAt_set, Option.some.injEq]
            by_cases e : k = g
            · subst e; simp
            · simp [e, Ne.symm e]

/-- An elder version of a row into which is stored is not readable any more. -/
theorem elder_closed {ep ep' : T Nat} {g k : Nat} (h : k ≤ epAt ep g) (h' : epAt ep' g = epAt ep g + 1) : readable ep' (some g) (some k) = false := by
  simp only [readable, h']
  rw [Bool.eq_false_iff]
  intro e
  have := Nat.eq_of_beq_eq_true e
  omega

/-- Store into a row that is nobody's elder: in the machine, the same cells of the same block. -/
theorem WR.store (h : WR base w0 β s w) {A o : Nat} {vs vs' : List Value} {s' : St} {p : Pl} (hA : β A = some p) (hw : s.write A o vs = some s') (hvs : VRs β vs vs') {w' : World} {c c' : Array Value} {el : TypeId} {fz : Nat × Nat}
    (hc : w.heap[p.b]? = some (.cells c el fz)) (hh : w'.heap = w.heap.setIfInBounds p.b (.cells c' el fz)) (hos : w'.os = w.os) (ht : w'.tape = w.tape) (hout : w'.output = w.output)
    (hcs : c'.size = c.size) (hcg : ∀ i, c'[i]? = if p.sh + o ≤ i ∧ i < p.sh + o + vs.length then vs'[i - (p.sh + o)]? else c[i]?) : WR base w0 β s' w' := by
  obtain ⟨e, z, cs, g, cs', ho, hs, hn, hobj, hep⟩ := write_some hw
  obtain ⟨hsl, hlen, hget⟩ := spl_some _ _ _ _ hs
  obtain ⟨hz, hrow⟩ := h.rel A p _ hA ho
  obtain ⟨c0, el0, fz0, h1, h2, h3, h4, h5⟩ := hrow rfl
  rw [hc] at h1; cases h1
  have hlt : p.b < w.heap.size := (h.dom A p hA).2.1
  have hother : ∀ k, k ≠ p.b → w'.heap[k]? = w.heap[k]? := fun k hk => by rw [hh, Array.getElem?_setIfInBounds_ne (Ne.symm hk)]
  have hthis : w'.heap[p.b]? = some (.cells c' el fz) := by rw [hh]; simp [hlt]
  have hsz : w'.heap.size = w.heap.size := by rw [hh]; simp
  obtain ⟨hown1, hown2⟩ := h.own A p _ hA ho rfl
  refine ⟨⟨hos.trans h.below.os, ht.trans h.below.tape, hout.trans h.below.output, by rw [hsz]; exact h.below.size, fun k hk => by rw [hother k (by omega)]; exact h.below.block k hk⟩,
    by rw [hsz]; exact h.hb, ?_, ?_, ?_, ?_, ?_⟩
  · intro B q hB
    obtain ⟨d1, d2, ob, d3⟩ := h.dom B q hB
    rw [hn, hsz, hobj]
    by_cases eB : B = A
    · exact ⟨d1, d2, _, by rw [if_pos eB]⟩
    · exact ⟨d1, d2, ob, by rw [if_neg eB]; exact d3⟩
  · intro B q ob hB hob
    rw [hobj] at hob
    by_cases eB : B = A
    · subst eB
      rw [hA] at hB; cases hB
      rw [if_pos rfl] at hob; cases hob
      refine ⟨hz, fun _ => ⟨c', el, fz, hthis, hcs.trans h2, by omega, fun i v hv => ?_, h5⟩⟩
      rw [hget] at hv
      rw [hcg]
      by_cases hi : o ≤ i ∧ i < o + vs.length
      · rw [if_pos hi] at hv
        rw [if_pos (by omega)]
        obtain ⟨v', k1, k2⟩ := hvs.get hv
        exact ⟨v', by rw [← k1]; congr 1; omega, k2⟩
      · rw [if_neg hi] at hv
        rw [if_neg (by omega)]
        exact h4 i v hv
    · rw [if_neg eB] at hob
      have hold := h.rel B q ob hB hob
      by_cases eb : q.b = p.b
      · obtain ⟨e1, z1, cs1, g1, e2, z2, cs2, k, r1, r2, r3, r4⟩ := hown2 B q ob eB hB eb hob
        cases r1
        subst r2
        refine ⟨hold.1, fun hr => ?_⟩
        rw [elder_closed r3 (by rw [hep, if_pos rfl])] at hr
        cases hr
      · have hb' : w'.heap[q.b]? = w.heap[q.b]? := hother _ eb
        have h6 := hold.of_block hb'
        cases ob with
        | row e1 z1 cs1 g1 old1 =>
          refine ⟨h6.1, fun hr => ?_⟩
          refine h6.2 ?_
          cases old1 with
          | none => rfl
          | some k =>
            cases g1 with
            | none => rfl
            | some g1 =>
              simp only [readable] at hr ⊢
              have e1 := Nat.eq_of_beq_eq_true hr
              rw [hep] at e1
              by_cases eg : g = some g1
              · rw [if_pos eg] at e1
                have := h.eld _ _ _ _ _ _ hob
                omega
              · rw [if_neg eg] at e1
                rw [e1]; simp
        | map es cl => exact h6
        | siter l pos => exact h6
  · intro B hB
    rw [hn] at hB
    rw [hobj]
    have : B ≠ A := fun e => by subst e; have := h.fresh _ hB; rw [ho] at this; cases this
    rw [if_neg this]
    exact h.fresh B hB
  · intro B e1 z1 cs1 g1 k1 hob
    rw [hobj] at hob
    by_cases eB : B = A
    · rw [if_pos eB] at hob; cases hob
    · rw [if_neg eB] at hob
      have := h.eld _ _ _ _ _ _ hob
      rw [hep]; split <;> omega
  · intro B q ob hB hob hm
    rw [hobj] at hob
    have key : ∀ B' q' ob', β B' = some q' → s'.obj B' = some ob' → ∃ ob0, s.obj B' = some ob0 ∧ (B' = A ∧ ob0 = .row e z cs g none ∧ ob' = .row e z cs' g none ∨ B' ≠ A ∧ ob0 = ob') := fun B' q' ob' _ ho' => by
      rw [hobj] at ho'
      by_cases e' : B' = A
      · subst e'; rw [if_pos rfl] at ho'; cases ho'; exact ⟨_, ho, .inl ⟨rfl, rfl, rfl⟩⟩
      · rw [if_neg e'] at ho'; exact ⟨ob', ho', .inr ⟨e', rfl⟩⟩
    by_cases eB : B = A
    · subst eB
      rw [hA] at hB; cases hB
      rw [if_pos rfl] at hob; cases hob
      refine ⟨hown1, fun A' p' o' hne hA' hbb ho' => ?_⟩
      rw [hobj, if_neg hne] at ho'
      obtain ⟨e1, z1, cs1, g1, e2, z2, cs2, k, r1, r2, r3, r4⟩ := hown2 A' p' o' hne hA' hbb ho'
      cases r1
      exact ⟨_, _, _, _, _, _, _, _, rfl, r2, by rw [hep]; split <;> omega, fun hk => by rw [hep, if_pos rfl] at hk; omega⟩
    · rw [if_neg eB] at hob
      obtain ⟨k1, k2⟩ := h.own B q ob hB hob hm
      refine ⟨k1, fun A' p' o' hne hA' hbb ho' => ?_⟩
      obtain ⟨ob0, j1, j2⟩ := key A' p' o' hA' ho'
      obtain ⟨e1, z1, cs1, g1, e2, z2, cs2, k, r1, r2, r3, r4⟩ := k2 A' p' ob0 hne hA' hbb j1
      rcases j2 with ⟨_, j3, _⟩ | ⟨_, j3⟩
      · rw [j3] at r2; cases r2
      · subst j3
        refine ⟨_, _, _, _, _, _, _, _, r1, r2, by rw [hep]; split <;> omega, fun hk => ?_⟩
        rw [hep] at hk
        split at hk
        · omega
        · exact r4 hk


/-! ### a row that takes an elder one's place -/

theorem heir_some {A o m elem z A' : Nat} {cells : List Value} {s' : St} (h : s.heir A o m elem z cells = some (A', s')) :
    A' = s.nextId ∧ s'.nextId = s.nextId + 1 ∧ ∃ e cs g g', s.obj A = some (.row e z cs g none) ∧ (∀ x, g = some x → g' = x) ∧ o + m ≤ cs.length ∧
      (∀ B, s'.obj B = if B = s.nextId then some (.row elem z cells (some g') none) else if B = A then some (.row e z cs (some g') (some (epAt s.eps g'))) else s.obj B) ∧
      ((o + m = cs.length ∧ s'.eps = s.eps) ∨ ∀ k, epAt s'.eps k = if g' = k then epAt s.eps k + 1 else epAt s.eps k) := by
  cases s with | mk hp nx ep =>
  simp only [St.heir] at h
  cases hg : hp.get A with
  | none => simp [hg] at h
  | some ob =>
    cases ob with
    | map es c => simp [hg] at h
    | siter l p => simp [hg] at h
    | row e z' cs g old =>
      cases old with
      | some k => simp [hg] at h
      | none =>
        simp only [hg] at h
        cases hz : Nat.beq z z' with
        | false => simp [hz] at h
        | true =>
          have hzz := Nat.eq_of_beq_eq_true hz
          subst hzz
          simp only [hz] at h
          cases h1 : Nat.beq (o + m) (len cs 0) with
          | true =>
            have h2 := Nat.eq_of_beq_eq_true h1
            rw [len_eq] at h2
            simp only [h1, Option.some.injEq, Prod.mk.injEq] at h
            obtain ⟨rfl, rfl⟩ := h
            refine ⟨rfl, rfl, e, cs, g, (grpOf g A), hg, fun x hx => by subst hx; rfl, by omega, fun B => ?_, .inl ⟨by omega, rfl⟩⟩
            show ((hp.set A _).set nx _).get B = _
            rw [T.get_set, T.get_set]; rfl
          | false =>
            simp only [h1] at h
            cases h3 : Nat.ble (o + m) (len cs 0) with
            | false => simp [h3] at h
            | true =>
              have h2 := Nat.le_of_ble_eq_true h3
              rw [len_eq] at h2
              simp only [h3, Option.some.injEq, Prod.mk.injEq] at h
              obtain ⟨rfl, rfl⟩ := h
              refine ⟨rfl, rfl, e, cs, g, (grpOf g A), hg, fun x hx => by subst hx; rfl, by omega, fun B => ?_, .inr fun k => ?_⟩
              · show ((hp.set A _).set nx _).get B = _
                rw [T.get_set, T.get_set]; rfl
              · simp only [St.eps, epAt_set]
                by_cases ek : k = (grpOf g A)
                · subst ek; simp
                · rw [if_neg ek, if_neg (Ne.symm ek)]

/-- What both ways of the machine have in common: the new row lies at 'q'. -/
theorem WR.heir (h : WR base w0 β s w) {A o m elem z A' : Nat} {cells : List Value} {s' : St} (hh : s.heir A o m elem z cells = some (A', s')) {q : Pl} {w' : World}
    (hbel : Below base w0 w') (hsz : w.heap.size ≤ w'.heap.size) (hq : q.b < w'.heap.size) (hqb : base ≤ q.b)
    (hnew : OR (β.add A' q) s'.eps (.row elem z cells (some 0) none) q w')
    (hplace : (w.heap.size ≤ q.b ∧ ∀ k, k < w.heap.size → w'.heap[k]? = w.heap[k]?) ∨
      (∃ p c c' el fz, β A = some p ∧ q.b = p.b ∧ q.sh = p.sh + o ∧ m ≤ cells.length ∧ w.heap[p.b]? = some (.cells c el fz) ∧ w'.heap[p.b]? = some (.cells c' el fz) ∧ c'.size = c.size ∧
        (∀ i, i < p.sh + o + m → c'[i]? = c[i]?) ∧ ∀ k, k ≠ p.b → w'.heap[k]? = w.heap[k]?)) : WR base w0 (β.add A' q) s' w' := by
  obtain ⟨rfl, hn, e, cs, g, g', hA, hg', hle, hobj, hep⟩ := heir_some hh
  have hAn : A ≠ s.nextId := fun e => by subst e; have := h.fresh _ (Nat.le_refl _); rw [hA] at this; cases this
  have hmono := h.le_add q
  have hold : ∀ B, B ≠ s.nextId → (β.add s.nextId q) B = β B := fun B hB => by simp [Bl.add, hB]
  have hnw : (β.add s.nextId q) s.nextId = some q := by simp [Bl.add]
  have hepmono : ∀ k, epAt s.eps k ≤ epAt s'.eps k := fun k => by
    rcases hep with ⟨_, he⟩ | he
    · rw [he]; exact Nat.le_refl _
    · rw [he]; split <;> omega
  refine ⟨hbel, Nat.le_trans h.hb hsz, ?_, ?_, ?_, ?_, ?_⟩
  · intro B x hB
    rw [hn, hobj]
    by_cases eB : B = s.nextId
    · subst eB; rw [hnw] at hB; cases hB; exact ⟨by omega, hq, _, by rw [if_pos rfl]⟩
    · rw [hold B eB] at hB
      obtain ⟨d1, d2, ob, d3⟩ := h.dom B x hB
      refine ⟨by omega, by omega, ?_⟩
      rw [if_neg eB]
      by_cases eA : B = A
      · exact ⟨_, by rw [if_pos eA]⟩
      · exact ⟨ob, by rw [if_neg eA]; exact d3⟩
  · intro B x ob hB hob
    rw [hobj] at hob
    by_cases eB : B = s.nextId
    · subst eB
      rw [hnw] at hB; cases hB
      rw [if_pos rfl] at hob; cases hob
      exact ⟨hnew.1, fun _ => hnew.2 rfl⟩
    · rw [hold B eB] at hB
      rw [if_neg eB] at hob
      -- the elder object, and what it was
      have hwas : ∃ ob0, s.obj B = some ob0 ∧ (B ≠ A ∧ ob0 = ob ∨ B = A ∧ ob0 = .row e z cs g none ∧ ob = .row e z cs (some g') (some (epAt s.eps g'))) := by
        by_cases eA : B = A
        · subst eA; rw [if_pos rfl] at hob; cases hob; exact ⟨_, hA, .inr ⟨rfl, rfl, rfl⟩⟩
        · rw [if_neg eA] at hob; exact ⟨ob, hob, .inl ⟨eA, rfl⟩⟩
      obtain ⟨ob0, hob0, hcase⟩ := hwas
      have hr0 := (h.rel B x ob0 hB hob0).mono hmono
      -- if it is readable now it was, and its block's cells are as they were
      have hread : ∀ e1 z1 cs1 g1 k1, ob = .row e1 z1 cs1 g1 k1 → readable s'.eps g1 k1 = true → ∃ g0 k0, ob0 = .row e1 z1 cs1 g0 k0 ∧ readable s.eps g0 k0 = true ∧ (k0 = none → k1 = none ∨ B = A) := by
        intro e1 z1 cs1 g1 k1 heq hr
        rcases hcase with ⟨_, rfl⟩ | ⟨hBA, rfl, hob1⟩
        · refine ⟨g1, k1, heq, ?_, fun h => .inl h⟩
          subst heq
          cases k1 with
          | none => rfl
          | some k1 =>
            cases g1 with
            | none => rfl
            | some g1 =>
              simp only [readable] at hr ⊢
              have e1 := Nat.eq_of_beq_eq_true hr
              have e2 := h.eld _ _ _ _ _ _ hob0
              have e3 := hepmono g1
              have : epAt s.eps g1 = k1 := by omega
              rw [this]; simp
        · rw [hob1] at heq; cases heq
          exact ⟨g, none, rfl, rfl, fun _ => .inr hBA⟩
      rcases hplace with ⟨hqn, hblk⟩ | ⟨p, c, c', el, fz, hp, hqp, hqs, hmc, hc, hc', hcs, hci, hblk⟩
      · have hb' : w'.heap[x.b]? = w.heap[x.b]? := hblk _ (h.dom B x hB).2.1
        have hr1 := hr0.of_block hb'
        cases ob with
        | row e1 z1 cs1 g1 k1 =>
          refine ⟨?_, fun hr => ?_⟩
          · rcases hcase with ⟨_, rfl⟩ | ⟨_, rfl, hob1⟩
            · exact hr0.1
            · cases hob1; exact hr0.1
          · obtain ⟨g0, k0, rfl, hr2, hk⟩ := hread _ _ _ _ _ rfl hr
            obtain ⟨c1, el1, fz1, j1, j2, j3, j4, j5⟩ := hr1.2 hr2
            refine ⟨c1, el1, fz1, j1, j2, j3, j4, fun hk1 => ?_⟩
            rcases hcase with ⟨_, hx⟩ | ⟨_, _, hx⟩
            · cases hx; exact j5 hk1
            · cases hx; cases hk1
        | map es cl =>
          rcases hcase with ⟨_, rfl⟩ | ⟨_, _, hx⟩
          · exact hr1
          · cases hx
        | siter l pos =>
          rcases hcase with ⟨_, rfl⟩ | ⟨_, _, hx⟩
          · exact hr1
          · cases hx
      · by_cases exb : x.b = p.b
        · -- the same block: the row itself or an elder one
          cases ob with
          | map es cl =>
            rcases hcase with ⟨hne, rfl⟩ | ⟨_, _, hx⟩
            · obtain ⟨_, _, _, _, _, _, _, _, _, r2, _⟩ := (h.own A p _ hp hA rfl).2 B x _ hne hB exb hob0
              cases r2
            · cases hx
          | siter l pos =>
            rcases hcase with ⟨hne, rfl⟩ | ⟨_, _, hx⟩
            · obtain ⟨_, _, _, _, _, _, _, _, _, r2, _⟩ := (h.own A p _ hp hA rfl).2 B x _ hne hB exb hob0
              cases r2
            · cases hx
          | row e1 z1 cs1 g1 k1 =>
            refine ⟨?_, fun hr => ?_⟩
            · rcases hcase with ⟨_, rfl⟩ | ⟨_, rfl, hob1⟩
              · exact hr0.1
              · cases hob1; exact hr0.1
            · obtain ⟨g0, k0, rfl, hr2, hk⟩ := hread _ _ _ _ _ rfl hr
              obtain ⟨c1, el1, fz1, j1, j2, j3, j4, j5⟩ := hr0.2 hr2
              rw [exb, hc] at j1; cases j1
              -- its end lies before what was written
              have hend : x.sh + cs1.length ≤ p.sh + o + m := by
                rcases hcase with ⟨hne, hx⟩ | ⟨hBA, hx, hy⟩
                · cases hx
                  obtain ⟨e2, z2, cs2, g2, e3, z3, cs3, k, r1, r2, r3, r4⟩ := (h.own A p _ hp hA rfl).2 B x _ hne hB exb hob0
                  cases r1; cases r2
                  have hgg := hg' _ rfl
                  subst hgg
                  simp only [readable] at hr hr2
                  have e5 := Nat.eq_of_beq_eq_true hr
                  have e6 := Nat.eq_of_beq_eq_true hr2
                  rcases hep with ⟨he1, he2⟩ | he
                  · have := r4 e6.symm; omega
                  · rw [he, if_pos rfl] at e5; omega
                · cases hx
                  subst hBA
                  rw [hp] at hB; cases hB
                  cases hy
                  simp only [readable] at hr
                  have e5 := Nat.eq_of_beq_eq_true hr
                  rcases hep with ⟨he1, he2⟩ | he
                  · omega
                  · rw [he, if_pos rfl] at e5; omega
              refine ⟨c', el, fz, by rw [exb]; exact hc', by omega, j3, fun i v hv => ?_, fun hk1 => ?_⟩
              · have hi : i < cs1.length := by
                  rw [List.getElem?_eq_some_iff] at hv; exact hv.1
                rw [hci _ (by omega)]
                exact j4 i v hv
              · rcases hcase with ⟨hne, hx⟩ | ⟨_, _, hx⟩
                · cases hx; exact j5 hk1
                · cases hx; cases hk1
        · have hb' : w'.heap[x.b]? = w.heap[x.b]? := hblk _ exb
          have hr1 := hr0.of_block hb'
          rcases hcase with ⟨hne, rfl⟩ | ⟨hBA, _, _⟩
          · cases ob0 with
            | row e1 z1 cs1 g1 k1 =>
              refine ⟨hr1.1, fun hr => ?_⟩
              obtain ⟨g0, k0, hx, hr2, hk⟩ := hread _ _ _ _ _ rfl hr
              cases hx
              exact hr1.2 hr2
            | map es cl => exact hr1
            | siter l pos => exact hr1
          · subst hBA; rw [hp] at hB; cases hB; exact absurd rfl exb
  · intro B hB
    rw [hn] at hB
    rw [hobj, if_neg (by omega)]
    have : B ≠ A := fun e => by subst e; have := h.fresh B (by omega); rw [hA] at this; cases this
    rw [if_neg this]
    exact h.fresh B (by omega)
  · intro B e1 z1 cs1 g1 k1 hob
    rw [hobj] at hob
    by_cases eB : B = s.nextId
    · rw [if_pos eB] at hob; cases hob
    · rw [if_neg eB] at hob
      by_cases eA : B = A
      · rw [if_pos eA] at hob; cases hob; exact hepmono _
      · rw [if_neg eA] at hob
        exact Nat.le_trans (h.eld _ _ _ _ _ _ hob) (hepmono _)
  · intro B x ob hB hob hm
    rw [hobj] at hob
    by_cases eB : B = s.nextId
    · subst eB
      rw [hnw] at hB; cases hB
      rw [if_pos rfl] at hob; cases hob
      refine ⟨hqb, fun A' p' o' hne hA' hbb ho' => ?_⟩
      rw [hold A' hne] at hA'
      rw [hobj, if_neg hne] at ho'
      rcases hplace with ⟨hqn, _⟩ | ⟨p, c, c', el, fz, hp, hqp, hqs, hmc, hc, hc', hcs, hci, hblk⟩
      · have := (h.dom A' p' hA').2.1; omega
      · by_cases eA : A' = A
        · subst eA
          rw [hp] at hA'; cases hA'
          rw [if_pos rfl] at ho'; cases ho'
          refine ⟨_, _, _, _, _, _, _, _, rfl, rfl, hepmono _, fun hk => ?_⟩
          rcases hep with ⟨he1, he2⟩ | he
          · rw [hqs]; omega
          · rw [he, if_pos rfl] at hk; omega
        · rw [if_neg eA] at ho'
          obtain ⟨e2, z2, cs2, g2, e3, z3, cs3, k, r1, r2, r3, r4⟩ := (h.own A p _ hp hA rfl).2 A' p' _ eA hA' (by omega) ho'
          cases r1; subst r2
          have hgg := hg' _ rfl
          subst hgg
          refine ⟨_, _, _, _, _, _, _, _, rfl, rfl, Nat.le_trans r3 (hepmono _), fun hk => ?_⟩
          rcases hep with ⟨he1, he2⟩ | he
          · rw [he2] at hk
            have := r4 hk
            rw [hqs]; omega
          · rw [he, if_pos rfl] at hk; omega
    · rw [if_neg eB] at hob
      rw [hold B eB] at hB
      by_cases eA : B = A
      · rw [if_pos eA] at hob; cases hob; cases hm
      · rw [if_neg eA] at hob
        obtain ⟨k1, k2⟩ := h.own B x ob hB hob hm
        have hnotA : ∀ p, β A = some p → p.b ≠ x.b := fun p hp hbb => by
          obtain ⟨_, _, _, _, _, _, _, _, _, r2, _⟩ := k2 A p _ (Ne.symm eA) hp hbb hA
          cases r2
        refine ⟨k1, fun A' p' o' hne hA' hbb ho' => ?_⟩
        rw [hobj] at ho'
        by_cases e' : A' = s.nextId
        · subst e'
          rw [hnw] at hA'; cases hA'
          rcases hplace with ⟨hqn, _⟩ | ⟨p, c, c', el, fz, hp, hqp, _⟩
          · have := (h.dom B x hB).2.1; omega
          · exact absurd (by omega) (hnotA p hp)
        · rw [hold A' e'] at hA'
          rw [if_neg e'] at ho'
          by_cases eA' : A' = A
          · subst eA'; exact absurd hbb (hnotA p' hA')
          · rw [if_neg eA'] at ho'
            obtain ⟨e2, z2, cs2, g2, e3, z3, cs3, k, r1, r2, r3, r4⟩ := k2 A' p' o' hne hA' hbb ho'
            refine ⟨_, _, _, _, _, _, _, _, r1, r2, Nat.le_trans r3 (hepmono _), fun hk => ?_⟩
            have := hepmono g2
            exact r4 (by omega)


/-! ### maps, iterators -/

def AObj.isRow : AObj → Bool
  | .row .. => true
  | _ => false

theorem AObj.mine_of_not_row {o : AObj} (h : o.isRow = false) : o.mine = true := by cases o <;> simp_all [AObj.isRow, AObj.mine]

theorem WR.setObj (h : WR base w0 β s w) {A : Nat} {p : Pl} {o o2 : AObj} {w' : World} {ob : Obj} (hA : β A = some p) (ho : s.obj A = some o) (hr : o.isRow = false) (hr2 : o2.isRow = false)
    (hh : w'.heap = w.heap.setIfInBounds p.b ob) (hos : w'.os = w.os) (ht : w'.tape = w.tape) (hout : w'.output = w.output) (hor : OR β s.eps o2 p w') : WR base w0 β (s.setObj A o2) w' := by
  have hobj : ∀ B, (s.setObj A o2).obj B = if B = A then some o2 else s.obj B := fun B => by
    cases s with | mk hp nx ep => show (hp.set A o2).get B = _; rw [T.get_set]; rfl
  have hn : (s.setObj A o2).nextId = s.nextId := by cases s; rfl
  have he : (s.setObj A o2).eps = s.eps := by cases s; rfl
  have hlt : p.b < w.heap.size := (h.dom A p hA).2.1
  have hother : ∀ k, k ≠ p.b → w'.heap[k]? = w.heap[k]? := fun k hk => by rw [hh, Array.getElem?_setIfInBounds_ne (Ne.symm hk)]
  have hsz : w'.heap.size = w.heap.size := by rw [hh]; simp
  obtain ⟨hown1, hown2⟩ := h.own A p _ hA ho (AObj.mine_of_not_row hr)
  have halone : ∀ B q ob, B ≠ A → β B = some q → s.obj B = some ob → q.b ≠ p.b := fun B q ob hne hB hob e => by
    obtain ⟨_, _, _, _, _, _, _, _, r1, _⟩ := hown2 B q ob hne hB e hob
    subst r1; cases hr
  refine ⟨⟨hos.trans h.below.os, ht.trans h.below.tape, hout.trans h.below.output, by rw [hsz]; exact h.below.size, fun k hk => by rw [hother k (by omega)]; exact h.below.block k hk⟩,
    by rw [hsz]; exact h.hb, ?_, ?_, ?_, ?_, ?_⟩
  · intro B q hB
    obtain ⟨d1, d2, ob, d3⟩ := h.dom B q hB
    rw [hn, hsz, hobj]
    by_cases eB : B = A
    · exact ⟨d1, d2, _, by rw [if_pos eB]⟩
    · exact ⟨d1, d2, ob, by rw [if_neg eB]; exact d3⟩
  · intro B q ob hB hob
    rw [hobj] at hob
    rw [he]
    by_cases eB : B = A
    · subst eB; rw [hA] at hB; cases hB; rw [if_pos rfl] at hob; cases hob; exact hor
    · rw [if_neg eB] at hob
      exact (h.rel B q ob hB hob).of_block (hother _ (halone B q ob eB hB hob))
  · intro B hB
    rw [hn] at hB
    rw [hobj]
    have : B ≠ A := fun e => by subst e; have := h.fresh _ hB; rw [ho] at this; cases this
    rw [if_neg this]
    exact h.fresh B hB
  · intro B e1 z1 cs1 g1 k1 hob
    rw [hobj] at hob
    rw [he]
    by_cases eB : B = A
    · rw [if_pos eB] at hob; cases hob; cases hr2
    · rw [if_neg eB] at hob; exact h.eld _ _ _ _ _ _ hob
  · intro B q ob hB hob hm
    rw [hobj] at hob
    by_cases eB : B = A
    · subst eB
      rw [hA] at hB; cases hB
      refine ⟨hown1, fun A' p' o' hne hA' hbb ho' => ?_⟩
      rw [hobj, if_neg hne] at ho'
      exact absurd hbb (halone A' p' o' hne hA' ho')
    · rw [if_neg eB] at hob
      obtain ⟨k1, k2⟩ := h.own B q ob hB hob hm
      refine ⟨k1, fun A' p' o' hne hA' hbb ho' => ?_⟩
      rw [hobj] at ho'
      rw [he]
      by_cases e' : A' = A
      · subst e'
        rw [hA] at hA'; cases hA'
        exact absurd hbb.symm (halone B q ob eB hB hob)
      · rw [if_neg e'] at ho'
        exact k2 A' p' o' hne hA' hbb ho'

end
end Go.Ev
end

section
set_option linter.unusedSimpArgs false
set_option linter.unusedVariables false
namespace Go.Ev
open Go _root_.Ev Go.RowKit

section
variable {P : Program} {β : Bl} {t : T Value} {s s' : St} {a : Act} {v : Value} {cop : COp}

/-- It yields a value that belongs to 'v', in whatever world. -/
def PureOk (P : Program) (β : Bl) (a : Act) (o : Oper) (v : Value) : Prop := ∃ v', VR β v v' ∧ ∀ w, (execOp a.eval o).run P w = .ok (.value v') w

theorem run_value (x : Value) (w : World) : (do pure (Next.value (← (pure x : Sem Value))) : Sem Next).run P w = .ok (.value x) w := rfl

theorem run_under {t : TypeId} {d : TypeDesc} (h : P.underlying t = some d) (w : World) : (underlying t).run P w = .ok d w := by
  simp [underlying, program, Sem.run, h, pure, bind, Sem.bind]

theorem infoOf {t : TypeId} {n : Nat} (h : sizeT P t = some n) : ∃ i, P.info? t = some i ∧ i.size = n := by
  simpa [sizeT] using h

theorem run_size {t : TypeId} {n : Nat} (h : sizeT P t = some n) (w : World) : (sizeOf t).run P w = .ok n w := by
  obtain ⟨i, hi, rfl⟩ := infoOf h
  simp [sizeOf, typeInfo, program, Sem.run, hi, pure, bind, Sem.bind]

theorem run_agg {t : TypeId} {b : Bool} (h : aggT P t = some b) (w : World) : (isAgg t).run P w = .ok b w := by
  unfold aggT at h
  unfold isAgg
  cases hu : P.underlying t with
  | none => simp [hu] at h
  | some d =>
    rw [hu] at h
    simp only [Sem.run_bind, run_under hu, Result.andThen]
    cases d <;> simp at h <;> subst h <;> rfl

theorem pure_move {o : Oper} {x : Operand} (ho : o.op = .move x ∨ o.op = .assign x) (h : cOp P o = some cop) (hd : doOp t s cop = some (v, s')) (ht : TR β t a.tmps) :
    s' = s ∧ PureOk P β a o v := by
  have hc : (do some (COp.move (← cOpd x))) = some cop := by rcases ho with ho | ho <;> simpa [cOp, ho] using h
  cases hx : cOpd x with
  | none => simp [hx] at hc
  | some y =>
    simp [hx] at hc; subst hc
    simp [doOp] at hd
    obtain ⟨rfl, rfl⟩ := hd
    exact ⟨rfl, a.eval x, cOpd_eval hx ht, fun w => by rcases ho with ho | ho <;> simp [execOp, ho]⟩

theorem pure_pick {o : Oper} {c x y : Operand} (ho : o.op = .pick c x y) (h : cOp P o = some cop) (hd : doOp t s cop = some (v, s')) (ht : TR β t a.tmps) :
    s' = s ∧ PureOk P β a o v := by
  simp only [cOp, ho] at h
  cases hc : cOpd c with
  | none => simp [hc] at h
  | some c' =>
    cases hx : cOpd x with
    | none => simp [hc, hx] at h
    | some x' =>
      cases hy : cOpd y with
      | none => simp [hc, hx, hy] at h
      | some y' =>
        simp [hc, hx, hy] at h; subst h
        have e := cOpd_eval hc ht
        simp only [doOp] at hd
        generalize hcv : c'.ev t = cv at hd e
        cases cv <;> try (simp at hd; done)
        rename_i b
        generalize hcv' : a.eval c = cv' at e
        cases e
        cases b <;> simp at hd <;> obtain ⟨rfl, rfl⟩ := hd
        · exact ⟨rfl, a.eval y, cOpd_eval hy ht, fun w => by simp [execOp, ho, hcv', asBool, pure, bind, Sem.bind, Sem.run]⟩
        · exact ⟨rfl, a.eval x, cOpd_eval hx ht, fun w => by simp [execOp, ho, hcv', asBool, pure, bind, Sem.bind, Sem.run]⟩

theorem pure_nilCheck {o : Oper} {x : Operand} (ho : o.op = .nilCheck x) (h : cOp P o = some cop) (hd : doOp t s cop = some (v, s')) (ht : TR β t a.tmps) :
    s' = s ∧ PureOk P β a o v := by
  simp only [cOp, ho] at h
  cases hx : cOpd x with
  | none => simp [hx] at h
  | some x' =>
    simp [hx] at h; subst h
    have e := cOpd_eval hx ht
    simp only [doOp] at hd
    generalize hv : x'.ev t = xv at hd e
    generalize hv' : a.eval x = xv' at e
    cases e <;> try (simp at hd; done)
    · simp at hd
      obtain ⟨rfl, rfl⟩ := hd
      exact ⟨rfl, _, .ptr _ _ _ ‹_›, fun w => by simp [execOp, ho, hv', pure, Sem.run]⟩
    · rename_i fn _ _ _ _ ha hb
      cases fn <;> try (simp at hd; done)
      simp at hd
      obtain ⟨rfl, rfl⟩ := hd
      exact ⟨rfl, _, .func _ _ _ _ _ ha hb, fun w => by simp [execOp, ho, hv', pure, Sem.run]⟩

theorem pure_extract {o : Oper} {x : Operand} {i : Nat} (ho : o.op = .extract x i) (h : cOp P o = some cop) (hd : doOp t s cop = some (v, s')) (ht : TR β t a.tmps) :
    s' = s ∧ PureOk P β a o v := by
  simp only [cOp, ho] at h
  cases hx : cOpd x with
  | none => simp [hx] at h
  | some x' =>
    simp [hx] at h; subst h
    have e := cOpd_eval hx ht
    simp only [doOp] at hd
    generalize hv : x'.ev t = xv at hd e
    generalize hv' : a.eval x = xv' at e
    cases e <;> simp at hd
    rename_i l l' hl
    cases hn : nth l i with
    | none => simp [hn] at hd
    | some u =>
      simp [hn] at hd
      obtain ⟨rfl, rfl⟩ := hd
      rw [nth_eq] at hn
      obtain ⟨u', h1, h2⟩ := hl.get hn
      exact ⟨rfl, u', h2, fun w => by simp [execOp, ho, hv', Instr.extract, h1, pure, bind, Sem.bind, Sem.run]⟩

theorem pure_mkFunc {o : Oper} {fn : Fn} {fs cs : Array Operand} (ho : o.op = .makeFunc fn fs cs) (h : cOp P o = some cop) (hd : doOp t s cop = some (v, s')) (ht : TR β t a.tmps) :
    s' = s ∧ PureOk P β a o v := by
  simp only [cOp, ho] at h
  cases fn <;> simp at h
  rename_i f
  cases h1 : cOpds fs.toList with
  | none => simp [h1] at h
  | some l1 =>
    cases h2 : cOpds cs.toList with
    | none => simp [h1, h2] at h
    | some l2 =>
      simp [h1, h2] at h; subst h
      simp [doOp] at hd
      obtain ⟨rfl, rfl⟩ := hd
      refine ⟨rfl, _, .func _ _ _ _ _ (cOpds_eval h1 ht) (cOpds_eval h2 ht), fun w => ?_⟩
      obtain ⟨fl⟩ := fs
      obtain ⟨cl⟩ := cs
      simp [execOp, ho, Instr.makeFunc, pure, bind, Sem.bind, Sem.run]

theorem pure_fieldAddr {o : Oper} {sT : TypeId} {x : Operand} {f : Nat} (ho : o.op = .fieldAddr sT x f) (h : cOp P o = some cop) (hd : doOp t s cop = some (v, s')) (ht : TR β t a.tmps) :
    s' = s ∧ PureOk P β a o v := by
  simp only [cOp, ho] at h
  cases hu : P.underlying sT with
  | none => simp [hu] at h
  | some d =>
    cases d <;> simp [hu] at h
    rename_i fs
    cases hf : fs[f]? with
    | none => simp [hf] at h
    | some fd =>
      simp [hf] at h
      cases hz : sizeT P fd.type with
      | none => simp [hz] at h
      | some n =>
        cases hx : cOpd x with
        | none => simp [hz, hx] at h
        | some x' =>
          simp [hz, hx] at h
          obtain ⟨hn, rfl⟩ := h
          have e := cOpd_eval hx ht
          simp only [doOp] at hd
          generalize hv : x'.ev t = xv at hd e
          generalize hv' : a.eval x = xv' at e
          cases e <;> simp [addrOf] at hd
          rename_i A p oo hA
          obtain ⟨rfl, rfl⟩ := hd
          refine ⟨rfl, _, .ptr A p _ hA, fun w => ?_⟩
          simp [execOp, ho, hv', Instr.fieldAt, Sem.run_bind, run_under hu, Result.andThen, hf, Instr.sureAddr, fieldPlace, run_size hz, hn, Addr.add]
          split <;> simp_all [Nat.add_assoc]

end
end Go.Ev
end

section
set_option linter.unusedSimpArgs false
set_option linter.unusedVariables false
namespace Go.Ev
open Go _root_.Ev Go.RowKit

theorem decide_kind {k k' : IntKind} (h : decide (k = k') = true) : k = k' := of_decide_eq_true h

theorem land_wrap {k : IntKind} {m n : Nat} (hm : m ≤ topOf k) (hn : n ≤ topOf k) (op : BinOp) (r : Nat)
    (h : op = .and ∧ r = Nat.land m n ∨ op = .or ∧ r = Nat.lor m n ∨ op = .xor ∧ r = Nat.xor m n) :
    Op.intBits op k (.ofNat m) (.ofNat n) = pure (.int k (.ofNat r)) := by
  have e1 : ∀ x : Nat, x ≤ topOf k → (BitVec.ofInt k.bits (Int.ofNat x)).toNat = x := fun x hx => by
    rw [BitVec.toNat_ofInt]
    have : x < 2 ^ k.bits := by cases k <;> simp only [topOf] at hx <;> simp only [IntKind.bits] <;> omega
    have e : (Int.ofNat x % ((2 ^ k.bits : Nat) : Int)) = ((x % 2 ^ k.bits : Nat) : Int) := by simp
    rw [e, Int.toNat_natCast, Nat.mod_eq_of_lt this]
  have hr : r ≤ topOf k := by
    have : ∀ b : Nat, topOf k = 2 ^ b - 1 → r ≤ topOf k := fun b hb => by
      have h2 : 0 < 2 ^ b := Nat.two_pow_pos b
      have hmb : m < 2 ^ b := by omega
      have hnb : n < 2 ^ b := by omega
      rcases h with ⟨_, rfl⟩ | ⟨_, rfl⟩ | ⟨_, rfl⟩
      · have : m &&& n < 2 ^ b := Nat.and_lt_two_pow m hnb
        show m &&& n ≤ _; omega
      · have : m ||| n < 2 ^ b := Nat.or_lt_two_pow hmb hnb
        show m ||| n ≤ _; omega
      · have : m ^^^ n < 2 ^ b := Nat.xor_lt_two_pow hmb hnb
        show m ^^^ n ≤ _; omega
    cases k
    · exact this 7 rfl
    · exact this 15 rfl
    · exact this 31 rfl
    · exact this 63 rfl
    · exact this 8 rfl
    · exact this 16 rfl
    · exact this 32 rfl
    · exact this 64 rfl
  have hw : k.wrap (r : Nat) = .ofNat r := by
    have := wrapF_eq k (.ofNat r)
    unfold wrapF at this
    simp only [Nat.ble_eq_true_of_le hr] at this
    exact this.symm
  rcases h with ⟨rfl, rfl⟩ | ⟨rfl, rfl⟩ | ⟨rfl, rfl⟩
  · simp only [Op.intBits, BitVec.toNat_and, e1 m hm, e1 n hn]
    exact congrArg (fun x => (pure (Value.int k x) : Sem Value)) hw
  · simp only [Op.intBits, BitVec.toNat_or, e1 m hm, e1 n hn]
    exact congrArg (fun x => (pure (Value.int k x) : Sem Value)) hw
  · simp only [Op.intBits, BitVec.toNat_xor, e1 m hm, e1 n hn]
    exact congrArg (fun x => (pure (Value.int k x) : Sem Value)) hw

theorem beqBytes_eq : ∀ (x y : List UInt8), beqBytes x y = (x == y)
  | [], [] => rfl
  | [], _ :: _ => rfl
  | _ :: _, [] => rfl
  | a :: x, b :: y => by
    simp only [beqBytes]
    by_cases h : a = b
    · subst h; simp [beqBytes_eq x y]
    · have : Nat.beq a.toNat b.toNat = false := by
        rw [Bool.eq_false_iff]
        intro e
        exact h (UInt8.toNat_inj.1 (Nat.eq_of_beq_eq_true e))
      simp [this, h]

theorem lessBytes_eq : ∀ (x y : List UInt8), lessBytes x y = Op.bytesLess x y
  | [], [] => rfl
  | [], _ :: _ => rfl
  | _ :: _, [] => by simp [lessBytes, Op.bytesLess]
  | a :: x, b :: y => by
    simp only [lessBytes, Op.bytesLess, lessBytes_eq x y]
    by_cases h : a < b
    · have : Nat.ble (Nat.succ a.toNat) b.toNat = true := Nat.ble_eq_true_of_le (UInt8.lt_iff_toNat_lt.1 h)
      simp [this, h]
    · have h1 : Nat.ble (Nat.succ a.toNat) b.toNat = false := by
        rw [Bool.eq_false_iff]
        intro e
        exact h (UInt8.lt_iff_toNat_lt.2 (Nat.le_of_ble_eq_true e))
      by_cases e : a = b
      · subst e; simp [h1]
      · have h2 : Nat.beq a.toNat b.toNat = false := by
          rw [Bool.eq_false_iff]
          intro e'
          exact e (UInt8.toNat_inj.1 (Nat.eq_of_beq_eq_true e'))
        simp [h1, h2, h, e]

theorem binInt_run {op : BinOp} {k : IntKind} {x y : Int} {v : Value} (h : binInt op k x y = some v) (hs : op ≠ .shl ∧ op ≠ .shr) (xt : TypeId) : binOp op xt (.int k x) (.int k y) = pure v := by
  cases op <;> simp only [binInt] at h <;> simp only [binOp] <;> try (simp at hs; done)
  case add => simp at h; subst h; simp [mkInt_eq, Op.intArith]
  case sub => simp at h; subst h; simp [mkInt_eq, Op.intArith]
  case mul => simp at h; subst h; simp [mkInt_eq, Op.intArith]
  case quo =>
    rw [beqF_eq] at h
    by_cases hy : y = 0
    · simp [hy] at h
    · simp [hy] at h; subst h; simp [mkInt_eq, Op.intDiv, hy]
  case rem =>
    rw [beqF_eq] at h
    by_cases hy : y = 0
    · simp [hy] at h
    · simp [hy] at h
      have : v = .int k (x.tmod y) := by
        cases hm : x.tmod y <;> simp [hm] at h <;> exact h.symm
      subst this
      simp [Op.intDiv, hy]
  case eql => simp at h; subst h; rw [beqF_eq]; simp [Op.intCmp]; rfl
  case neq => simp at h; subst h; rw [beqF_eq, boolXor_eq]; simp [Op.intCmp, bne]; rfl
  case lss => simp at h; subst h; rw [ltF_eq]; simp [Op.intCmp]
  case gtr => simp at h; subst h; rw [ltF_eq]; simp [Op.intCmp]
  case leq =>
    simp at h; subst h; rw [ltF_eq, boolXor_eq]; simp [Op.intCmp]
    congr 2
    by_cases hh : y < x <;> simp [hh] <;> omega
  case geq =>
    simp at h; subst h; rw [ltF_eq, boolXor_eq]; simp [Op.intCmp]
    congr 2
    by_cases hh : x < y <;> simp [hh] <;> omega
  all_goals (cases x <;> cases y <;> try (simp at h; done))
  all_goals
    rename_i m n
    simp only at h
    cases h1 : Nat.ble m (topOf k) <;> simp [h1] at h
    cases h2 : Nat.ble n (topOf k) <;> simp [h2] at h
    subst h
    simp only [ne_eq, not_true_eq_false, if_false]
    refine land_wrap (Nat.le_of_ble_eq_true h1) (Nat.le_of_ble_eq_true h2) _ _ ?_
    simp

theorem minF_eq (a b : Nat) : minF a b = min a b := by
  unfold minF
  cases h : Nat.ble a b with
  | true => have := Nat.le_of_ble_eq_true h; simp; omega
  | false => have : ¬ a ≤ b := fun e => by rw [Nat.ble_eq_true_of_le e] at h; cases h
             simp; omega

theorem boolOr_eq (a b : Bool) : boolOr a b = (a || b) := by cases a <;> cases b <;> rfl

theorem shiftInt_run {op : BinOp} {k k' : IntKind} {x y : Int} {v : Value} (hop : op = .shl ∨ op = .shr) (h : shiftInt op k x y = some v) (xt : TypeId) : binOp op xt (.int k x) (.int k' y) = pure v := by
  cases y with
  | negSucc n => rcases hop with rfl | rfl <;> simp [shiftInt] at h
  | ofNat n =>
    have hb : bitsOf k = k.bits := by cases k <;> rfl
    simp only [shiftInt, minF_eq, hb] at h
    have h0 : ¬ (Int.ofNat n < 0) := by simp
    rcases hop with rfl | rfl
    · simp only [binOp, Op.shift, h0, if_false]
      cases x with
      | negSucc m => simp at h
      | ofNat m =>
        simp only [Option.some.injEq] at h; subst h
        rw [mkInt_eq]
        have : (Int.ofNat (m.mul (Nat.pow 2 (min n k.bits)))) = Int.ofNat m * 2 ^ min n k.bits := by
          show ((m * 2 ^ min n k.bits : Nat) : Int) = _
          simp
        rw [this]; rfl
    · simp only [binOp, Op.shift, h0, if_false]
      cases x with
      | negSucc m => simp at h
      | ofNat m =>
        simp only [Option.some.injEq] at h; subst h
        have : (Int.ofNat (m.div (Nat.pow 2 (min n k.bits)))) = (Int.ofNat m).fdiv (2 ^ min n k.bits) := by
          have e : (2 : Int) ^ min n k.bits = ((2 ^ min n k.bits : Nat) : Int) := by simp
          rw [e, Int.fdiv_eq_ediv_of_nonneg _ (Int.natCast_nonneg _)]
          rfl
        rw [this]; rfl

theorem binStr_run {op : BinOp} {x y : ByteArray} {v : Value} (h : binStr op x.data.toList y.data.toList = some v) (xt : TypeId) : binOp op xt (.string x) (.string y) = pure v := by
  cases op <;> simp only [binStr] at h <;> simp only [binOp, Op.stringOp, ByteArray.toList_eq] <;> try (simp at h; done)
  case add =>
    cases hl : Nat.ble (len x.data.toList 0 + len y.data.toList 0) 9223372036854775807 with
    | false => simp [hl] at h
    | true =>
      have h1 := Nat.le_of_ble_eq_true hl
      simp only [hl, Option.some.injEq] at h; subst h
      rw [len_eq, len_eq] at h1
      have h2 : ¬ (((x.size + y.size : Nat) : Int) > IntKind.i64.max) := by
        have : x.size = x.data.toList.length := by simp
        have : y.size = y.data.toList.length := by simp
        simp only [IntKind.max, IntKind.signed, IntKind.bits]; simp; omega
      simp only [h2, if_false, strV, app_eq]
      have : (⟨⟨x.data.toList ++ y.data.toList⟩⟩ : ByteArray) = x ++ y := by
        apply ByteArray.ext
        rw [ByteArray.data_append]
        apply Array.ext'
        simp
      rw [this]
  case eql => simp at h; subst h; rw [beqBytes_eq]
  case neq => simp at h; subst h; rw [beqBytes_eq, boolXor_eq]; simp
  case lss => simp at h; subst h; rw [lessBytes_eq]
  case leq => simp at h; subst h; rw [boolOr_eq, lessBytes_eq, beqBytes_eq]
  case gtr => simp at h; subst h; rw [boolOr_eq, boolXor_eq, lessBytes_eq, beqBytes_eq]; simp
  case geq => simp at h; subst h; rw [boolXor_eq, lessBytes_eq]; simp

theorem binF_run {β : Bl} {op : BinOp} {x y x' y' v : Value} (h : binF op x y = some v) (hx : VR β x x') (hy : VR β y y') (xt : TypeId) : binOp op xt x' y' = pure v ∧ VR β v v ∧ (∀ u u' : Operand, eqGuard op xt u u' x' y' = pure ()) := by
  unfold binF at h
  split at h
  · rename_i k a k' b
    cases hx; cases hy
    refine ⟨?_, ?_, fun u u' => by simp [eqGuard]⟩
    · split at h
      · exact shiftInt_run (.inl rfl) h xt
      · exact shiftInt_run (.inr rfl) h xt
      · rename_i h1 h2
        cases hk : decide (k = k') with
        | false => simp [hk] at h
        | true =>
          simp only [hk] at h
          obtain rfl := decide_kind hk
          exact binInt_run h ⟨h1, h2⟩ xt
    · have key : ∀ {o : Option Value}, o = some v → (∀ u, o = some u → plain1 u = true) → VR β v v := fun h1 h2 => plain1_refl (h2 v h1)
      refine key h fun u hu => ?_
      split at hu
      · unfold shiftInt at hu
        split at hu
        · simp at hu
        · simp only at hu
          split at hu
          · simp at hu; subst hu; rw [mkInt_eq]; rfl
          · simp at hu
      · unfold shiftInt at hu
        split at hu
        · simp at hu
        · simp only at hu
          split at hu
          · simp at hu; subst hu; rfl
          · simp at hu
      · cases hk : decide (k = k') with
        | false => simp [hk] at hu
        | true =>
          simp only [hk] at hu
          unfold binInt at hu
          repeat' split at hu
          all_goals first
            | (simp at hu; done)
            | (simp at hu; subst hu; rw [mkInt_eq]; rfl)
            | (simp at hu; subst hu; rfl)
  · rename_i a b
    cases hx; cases hy
    refine ⟨binStr_run h xt, ?_, fun u u' => by simp [eqGuard]⟩
    have key : plain1 v = true := by
      unfold binStr at h
      repeat' split at h
      all_goals first
        | (simp at h; done)
        | (simp at h; subst h; rfl)
    exact plain1_refl key
  · simp at h

end Go.Ev
end

section
set_option linter.unusedSimpArgs false
set_option linter.unusedVariables false
namespace Go.Ev
open Go _root_.Ev Go.RowKit

/-- Which values have a kind. -/
def FK.has : FK → Value → Prop
  | .int, .int _ _ => True
  | .bool, .bool _ => True
  | .str, .string _ => True
  | _, _ => False

theorem flatEq1_spec {k : FK} {x y : Value} {b : Bool} (h : flatEq1 k x y = some b) : k.has x ∧ k.has y ∧ (b = true ↔ x = y) := by
  unfold flatEq1 at h
  split at h <;> try (simp at h; done)
  · rename_i k1 a k2 c
    cases hk : decide (k1 = k2) with
    | false => simp [hk] at h
    | true =>
      obtain rfl := decide_kind hk
      simp [hk, beqF_eq] at h
      exact ⟨trivial, trivial, by rw [← h]; simp⟩
  · rename_i a c
    refine ⟨trivial, trivial, ?_⟩
    cases a <;> cases c <;> simp [boolXor] at h <;> subst h <;> simp
  · rename_i a c
    refine ⟨trivial, trivial, ?_⟩
    simp [beqBytes_eq] at h
    rw [← h]
    simp
    constructor
    · intro e
      exact ByteArray.ext e
    · intro e; rw [e]

theorem has_same {β : Bl} {k : FK} {x x' : Value} (h : k.has x) (hx : VR β x x') : x' = x := by
  cases k <;> cases hx <;> first | rfl | exact h.elim

theorem flatEq1_refl {β : Bl} {k : FK} {x x' : Value} {b : Bool} (h : flatEq1 k x x = some b) (hx : VR β x x') : x' = x ∧ b = true := by
  obtain ⟨h1, _, h3⟩ := flatEq1_spec h
  exact ⟨has_same h1 hx, h3.2 rfl⟩

theorem flatEqs_spec : ∀ {ks : List FK} {xs ys : List Value} {b : Bool}, flatEqs ks xs ys = some b → xs.length = ks.length ∧ ys.length = ks.length ∧ (b = true ↔ xs = ys)
  | [], [], [], b, h => by simp [flatEqs] at h; exact ⟨rfl, rfl, by simp [← h]⟩
  | k :: ks, x :: xs, y :: ys, b, h => by
    simp only [flatEqs] at h
    cases h1 : flatEq1 k x y with
    | none => simp [h1] at h
    | some c =>
      obtain ⟨_, _, hc⟩ := flatEq1_spec h1
      cases h2 : flatEqs ks xs ys with
      | none => cases c <;> simp [h1, h2] at h
      | some d =>
        obtain ⟨l1, l2, hd⟩ := flatEqs_spec h2
        refine ⟨by simp [l1], by simp [l2], ?_⟩
        cases c <;> simp [h1, h2] at h <;> subst h
        · simp; intro e; exact absurd (hc.2 e) (by simp)
        · rw [hd]; simp [hc.1 rfl]
  | [], [], _ :: _, _, h => by simp [flatEqs] at h
  | [], _ :: _, _, _, h => by simp [flatEqs] at h
  | _ :: _, [], _, _, h => by simp [flatEqs] at h
  | _ :: _, _ :: _, [], _, h => by simp [flatEqs] at h

theorem flatEqs_get {ks : List FK} {xs ys : List Value} {b : Bool} (h : flatEqs ks xs ys = some b) : ∀ (i : Nat) (k : FK), ks[i]? = some k → ∃ x y c, xs[i]? = some x ∧ ys[i]? = some y ∧ flatEq1 k x y = some c := by
  induction ks generalizing xs ys b with
  | nil => intro i k hk; simp at hk
  | cons k0 ks ih =>
    cases xs with
    | nil => simp [flatEqs] at h
    | cons x xs =>
      cases ys with
      | nil => simp [flatEqs] at h
      | cons y ys =>
        simp only [flatEqs] at h
        intro i k hk
        cases h1 : flatEq1 k0 x y with
        | none => simp [h1] at h
        | some c =>
          cases h2 : flatEqs ks xs ys with
          | none => cases c <;> simp [h1, h2] at h
          | some d =>
            cases i with
            | zero => simp at hk; subst hk; exact ⟨x, y, c, rfl, rfl, h1⟩
            | succ i => simp at hk; obtain ⟨x', y', c', a1, a2, a3⟩ := ih h2 i k hk; exact ⟨x', y', c', by simpa using a1, by simpa using a2, a3⟩

/-- A flat value belongs to itself alone. -/
theorem flat_same {β : Bl} : ∀ {ks : List FK} {xs xs' : List Value} {b : Bool}, flatEqs ks xs xs = some b → VRs β xs xs' → xs' = xs
  | [], [], xs', b, h, hv => by cases hv; rfl
  | k :: ks, x :: xs, xs', b, h, hv => by
    cases hv with
    | cons _ x' _ xs'' hx hs =>
      simp only [flatEqs] at h
      cases h1 : flatEq1 k x x with
      | none => simp [h1] at h
      | some c =>
        obtain ⟨e1, rfl⟩ := flatEq1_refl h1 hx
        simp [h1] at h
        rw [e1, flat_same h hs]
  | [], _ :: _, _, _, h, _ => by simp [flatEqs] at h
  | _ :: _, [], _, _, h, _ => by simp [flatEqs] at h

theorem flatKey_same {β : Bl} {kk : KK} {x x' : Value} {b : Bool} (h : flatEq kk x x = some b) (hx : VR β x x') : x' = x := by
  cases kk with
  | one k => exact (flatEq1_refl h hx).1
  | row ks =>
    cases x <;> simp [flatEq] at h
    cases hx with
    | agg l l' hl => rw [flat_same h hl]

theorem flatEq_iff {kk : KK} {x y : Value} {b : Bool} (h : flatEq kk x y = some b) : b = true ↔ x = y := by
  cases kk with
  | one k => exact (flatEq1_spec h).2.2
  | row ks =>
    cases x <;> cases y <;> simp [flatEq] at h
    rename_i a c
    rw [(flatEqs_spec h).2.2]
    obtain ⟨a⟩ := a; obtain ⟨c⟩ := c
    simp

section
variable {P : Program}

theorem one_under {t : TypeId} {k : FK} (h : oneT P t = some k) : (k = .int ∧ ∃ q, P.underlying t = some (.int q)) ∨ (k = .bool ∧ P.underlying t = some .bool) ∨ (k = .str ∧ P.underlying t = some .string) := by
  unfold oneT at h
  cases hu : P.underlying t with
  | none => simp [hu] at h
  | some d => cases d <;> simp [hu] at h <;> subst h <;> simp

theorem run_eq1 {d : Nat} {t : TypeId} {k : FK} {x y : Value} {b : Bool} (ht : oneT P t = some k) (h : flatEq1 k x y = some b) (w : World) : (Op.equalIn (d + 1) t x y).run P w = .ok b w := by
  rcases one_under ht with ⟨rfl, q, hu⟩ | ⟨rfl, hu⟩ | ⟨rfl, hu⟩
  · cases x <;> cases y <;> simp only [flatEq1] at h <;> try (simp at h; done)
    rename_i k1 a k2 c
    cases hk : decide (k1 = k2) with
    | false => simp [hk] at h
    | true =>
      obtain rfl := decide_kind hk
      simp [beqF_eq] at h
      rw [run_equalIn_int w d t _ _ _ _ hu]
      subst h; rfl
  · cases x <;> cases y <;> simp [flatEq1] at h
    rw [run_equalIn_bool' w d t _ _ hu]
    rename_i a c
    cases a <;> cases c <;> simp [boolXor] at h <;> subst h <;> rfl
  · cases x <;> cases y <;> simp [flatEq1] at h
    rw [run_equalIn_string w d t _ _ hu, ByteArray.toList_eq, ByteArray.toList_eq]
    rw [beqBytes_eq] at h
    subst h; rfl

theorem part_one {t : TypeId} {k : FK} (ht : oneT P t = some k) {cs : Array Value} {i : Nat} {x : Value} (h : cs[i]? = some x) (w : World) : (part t cs i).run P w = .ok x w := by
  have : aggT P t = some false := by
    rcases one_under ht with ⟨rfl, q, hu⟩ | ⟨rfl, hu⟩ | ⟨rfl, hu⟩ <;> simp [aggT, hu]
  simp [part, Sem.run_bind, run_agg this, Result.andThen, h]

theorem run_eqFields {d : Nat} {xs ys : List Value} : ∀ (fs : List Field) (i : Nat) (ks : List FK) (b : Bool), fieldsK P fs i = some ks → flatEqs ks (xs.drop i) (ys.drop i) = some b → ∀ w, (Op.eqFields (d + 1) ⟨xs⟩ ⟨ys⟩ fs).run P w = .ok b w
  | [], i, ks, b, h, hb, w => by
    simp [fieldsK] at h; subst h
    cases h1 : xs.drop i <;> cases h2 : ys.drop i <;> simp [h1, h2, flatEqs] at hb
    subst hb; rfl
  | f :: fs, i, ks, b, h, hb, w => by
    simp only [fieldsK] at h
    cases h1 : oneT P f.type with
    | none => simp [h1] at h
    | some k =>
      cases h2 : fieldsK P fs (i + 1) with
      | none => simp [h1, h2] at h
      | some ks' =>
        simp only [h1, h2] at h
        split at h
        · rename_i hf
          simp at h; subst h
          obtain ⟨hn, ho⟩ := hf
          cases hx : xs.drop i with
          | nil => simp [hx, flatEqs] at hb
          | cons x xr =>
            cases hy : ys.drop i with
            | nil => simp [hx, hy, flatEqs] at hb
            | cons y yr =>
              simp only [hx, hy, flatEqs] at hb
              have gx : xs[i]? = some x := by rw [← List.head?_drop, hx]; rfl
              have gy : ys[i]? = some y := by rw [← List.head?_drop, hy]; rfl
              have dx : xs.drop (i + 1) = xr := by rw [← List.tail_drop, hx]; rfl
              have dy : ys.drop (i + 1) = yr := by rw [← List.tail_drop, hy]; rfl
              cases h3 : flatEq1 k x y with
              | none => simp [h3] at hb
              | some c =>
                cases h4 : flatEqs ks' xr yr with
                | none => cases c <;> simp [h3, h4] at hb
                | some e =>
                  have r1 : (part f.type ⟨xs⟩ f.offset).run P w = .ok x w := part_one h1 (by rw [ho]; simpa using gx) w
                  have r2 : (part f.type ⟨ys⟩ f.offset).run P w = .ok y w := part_one h1 (by rw [ho]; simpa using gy) w
                  have ih := run_eqFields (d := d) (xs := xs) (ys := ys) fs (i + 1) ks' e h2 (by rw [dx, dy]; exact h4) w
                  simp only [Op.eqFields, ne_eq, hn, not_false_eq_true, if_true, Sem.run_bind, r1, r2, Result.andThen, run_eq1 h1 h3]
                  cases c <;> simp [h3, h4] at hb <;> subst hb
                  · simp
                  · simpa using ih
        · simp at h

theorem run_eqItems {d e n : Nat} {k : FK} {xs ys : List Value} (he : oneT P e = some k) : ∀ (m i : Nat) (b : Bool), flatEqs (List.replicate m k) (xs.drop i) (ys.drop i) = some b → ∀ w, (Op.eqItems (d + 1) e 1 ⟨xs⟩ ⟨ys⟩ (List.range' i m)).run P w = .ok b w
  | 0, i, b, hb, w => by
    cases h1 : xs.drop i <;> cases h2 : ys.drop i <;> simp [h1, h2, flatEqs] at hb
    subst hb; rfl
  | m + 1, i, b, hb, w => by
    rw [List.replicate_succ] at hb
    cases hx : xs.drop i with
    | nil => simp [hx, flatEqs] at hb
    | cons x xr =>
      cases hy : ys.drop i with
      | nil => simp [hx, hy, flatEqs] at hb
      | cons y yr =>
        simp only [hx, hy, flatEqs] at hb
        have gx : xs[i]? = some x := by rw [← List.head?_drop, hx]; rfl
        have gy : ys[i]? = some y := by rw [← List.head?_drop, hy]; rfl
        have dx : xs.drop (i + 1) = xr := by rw [← List.tail_drop, hx]; rfl
        have dy : ys.drop (i + 1) = yr := by rw [← List.tail_drop, hy]; rfl
        cases h3 : flatEq1 k x y with
        | none => simp [h3] at hb
        | some c =>
          cases h4 : flatEqs (List.replicate m k) xr yr with
          | none => cases c <;> simp [h3, h4] at hb
          | some f =>
            have r1 : (part e ⟨xs⟩ (i * 1)).run P w = .ok x w := part_one he (by simpa using gx) w
            have r2 : (part e ⟨ys⟩ (i * 1)).run P w = .ok y w := part_one he (by simpa using gy) w
            have ih := run_eqItems (d := d) (n := n) (xs := xs) (ys := ys) he m (i + 1) f (by rw [dx, dy]; exact h4) w
            simp only [List.range'_succ, Op.eqItems, Sem.run_bind, r1, r2, Result.andThen, run_eq1 he h3]
            cases c <;> simp [h3, h4] at hb <;> subst hb
            · simp
            · simpa using ih

theorem flat_under {t : TypeId} {ks : List FK} (h : flatT P t = some ks) : (∃ fs, P.underlying t = some (.struct fs) ∧ P.stoodInHeld t = false ∧ fieldsK P fs.toList 0 = some ks) ∨
    (∃ n e k i, P.underlying t = some (.array n e) ∧ oneT P e = some k ∧ P.info? e = some i ∧ i.size = 1 ∧ ks = List.replicate n k) := by
  unfold flatT at h
  cases hu : P.underlying t with
  | none => simp [hu] at h
  | some d =>
    cases d <;> simp [hu] at h
    · rename_i n e
      right
      cases h1 : oneT P e with
      | none => simp [h1] at h
      | some k =>
        cases h2 : P.info? e with
        | none => simp [h1, h2] at h
        | some i =>
          simp [h1, h2] at h
          exact ⟨n, e, k, i, rfl, h1, h2, h.1, h.2.symm⟩
    · rename_i fs
      left
      cases hs : P.stoodInHeld t <;> simp [hs] at h
      exact ⟨fs, rfl, rfl, h⟩

theorem run_eqFlat {t : TypeId} {ks : List FK} (ht : flatT P t = some ks) {xs ys : List Value} {b : Bool} (h : flatEqs ks xs ys = some b) (w : World) : (Op.equal t (.agg ⟨xs⟩) (.agg ⟨ys⟩)).run P w = .ok b w := by
  show (Op.equalIn (9998 + 1 + 1) t _ _).run P w = _
  rcases flat_under ht with ⟨fs, hu, hs, hf⟩ | ⟨n, e, k, i, hu, he, hi, hsz, rfl⟩
  · have hfs : P.fieldsOf t = fs := by simp [Program.fieldsOf, hu]
    rw [run_equalIn_struct w _ t _ _ (by rw [hfs]; exact hu) hs, hfs]
    exact run_eqFields fs.toList 0 ks b hf (by simpa using h) w
  · rw [run_equalIn_array w _ _ _ hu hi]
    have hc : P.cellsOf e = 1 := by simp [Program.cellsOf, hi, hsz]
    rw [hc, List.range_eq_range']
    exact run_eqItems (n := n) he n 0 b (by simpa using h) w

theorem run_eqKey {t : TypeId} {kk : KK} (ht : keyT P t = some kk) {x y : Value} {b : Bool} (h : flatEq kk x y = some b) (w : World) : (Op.equal t x y).run P w = .ok b w := by
  unfold keyT at ht
  cases h1 : oneT P t with
  | some fk =>
    simp [h1] at ht; subst ht
    exact run_eq1 (d := 9999) h1 h w
  | none =>
    cases h2 : flatT P t with
    | none => simp [h1, h2] at ht
    | some ks =>
      simp [h1, h2] at ht; subst ht
      cases x <;> cases y <;> simp [flatEq] at h
      rename_i a c
      obtain ⟨a⟩ := a; obtain ⟨c⟩ := c
      exact run_eqFlat h2 h w


/-! ### maps -/

theorem run_checkOne {em : Bool} {n : Nat} {t : TypeId} {k : FK} {x : Value} (ht : oneT P t = some k) (hx : k.has x) (w : World) : (Instr.checkKey em (n + 1) t x).run P w = .ok () w := by
  rcases one_under ht with ⟨rfl, q, hu⟩ | ⟨rfl, hu⟩ | ⟨rfl, hu⟩ <;> cases x <;> first | exact hx.elim | simp [Instr.checkKey, Sem.run_bind, run_under hu, Result.andThen]

theorem run_checkKey {em : Bool} {t : TypeId} {kk : KK} (ht : keyT P t = some kk) {x : Value} {b : Bool} (h : flatEq kk x x = some b) (w : World) : (Instr.checkKey em 10000 t x).run P w = .ok () w := by
  unfold keyT at ht
  cases h1 : oneT P t with
  | some fk =>
    simp [h1] at ht; subst ht
    exact run_checkOne h1 (flatEq1_spec h).1 w
  | none =>
    cases h2 : flatT P t with
    | none => simp [h1, h2] at ht
    | some ks =>
      simp [h1, h2] at ht; subst ht
      cases x <;> simp [flatEq] at h
      rename_i a
      obtain ⟨xs⟩ := a
      simp at h
      have get := flatEqs_get h
      rcases flat_under h2 with ⟨fs, hu, hs, hf⟩ | ⟨n, e, k, i, hu, he, hi, hsz, rfl⟩
      · show (Instr.checkKey em (9998 + 1 + 1) t _).run P w = _
        rw [Instr.checkKey]
        simp only [Sem.run_bind, run_under hu, Result.andThen]
        rw [← Array.forIn_toList]
        have key : ∀ (fs : List Field) (i : Nat) (ks' : List FK), fieldsK P fs i = some ks' → (∀ j k, ks'[j]? = some k → ks[i + j]? = some k) →
            ((forIn fs PUnit.unit fun f r => do
              if f.name ≠ "_" then do
                let a ← part f.type ⟨xs⟩ f.offset
                Instr.checkKey em (9998 + 1) f.type a
                pure (ForInStep.yield PUnit.unit)
              else pure (ForInStep.yield PUnit.unit)) : Sem PUnit).run P w = .ok PUnit.unit w := by
          intro fs
          induction fs with
          | nil => intro i ks' _ _; simp
          | cons f fs ih =>
            intro i ks' hk hks
            simp only [fieldsK] at hk
            cases k1 : oneT P f.type with
            | none => simp [k1] at hk
            | some k =>
              cases k2 : fieldsK P fs (i + 1) with
              | none => simp [k1, k2] at hk
              | some ks2 =>
                simp only [k1, k2] at hk
                split at hk
                · rename_i hfn
                  simp at hk; subst hk
                  obtain ⟨x, y, c, g1, g2, g3⟩ := get i k (by simpa using hks 0 k rfl)
                  have p1 : (part f.type ⟨xs⟩ f.offset).run P w = .ok x w := part_one k1 (by rw [hfn.2]; simpa using g1) w
                  have p2 : (Instr.checkKey em (9998 + 1) f.type x).run P w = .ok () w := run_checkOne k1 (flatEq1_spec g3).1 w
                  simp only [List.forIn_cons, Sem.run_bind, ne_eq, hfn.1, not_false_eq_true, if_true, p1, p2, Result.andThen, Sem.run_pure]
                  exact ih (i + 1) ks2 k2 fun j k' hj => by have := hks (j + 1) k' (by simpa using hj); rwa [show i + (j + 1) = i + 1 + j by omega] at this
                · simp at hk
        have := key fs.toList 0 ks hf (fun j k hj => by simpa using hj)
        simp at this
        simp [this]
      · show (Instr.checkKey em (9998 + 1 + 1) t _).run P w = _
        rw [Instr.checkKey]
        simp only [Sem.run_bind, run_under hu, Result.andThen]
        simp only [Std.Legacy.Range.forIn_eq_forIn_range', Std.Legacy.Range.size, Nat.sub_zero, Nat.add_one_sub_one, Nat.div_one]
        have hc : sizeT P e = some 1 := by simp [sizeT, hi, hsz]
        have all : ∀ j ∈ List.range' 0 n, ∃ x c, xs[j]? = some x ∧ flatEq1 k x x = some c := fun j hj => by
          have hjn : j < n := by simp at hj; omega
          obtain ⟨x, y, c, g1, g2, g3⟩ := get j k (by simp [hjn])
          rw [g1] at g2; cases g2
          exact ⟨x, c, g1, g3⟩
        generalize List.range' 0 n = is at all
        induction is with
        | nil => simp
        | cons j is ih =>
          obtain ⟨x, c, g1, g3⟩ := all j (by simp)
          have p1 : (part e ⟨xs⟩ (j * 1)).run P w = .ok x w := part_one he (by simpa using g1) w
          have p2 : (Instr.checkKey em (9998 + 1) e x).run P w = .ok () w := run_checkOne he (flatEq1_spec g3).1 w
          simp only [List.forIn_cons, Sem.run_bind, run_size hc, Result.andThen, p1, p2, Sem.run_pure]
          exact ih (fun y hy => all y (by simp [hy]))

end
end Go.Ev
end

section
set_option linter.unusedSimpArgs false
set_option linter.unusedVariables false
namespace Go.Ev
open Go _root_.Ev Go.RowKit

section
variable {P : Program} {β : Bl} {t : T Value} {s s' : St} {a : Act} {v : Value} {cop : COp}

/-- The value nil of a kind. -/
def NK.isNilV : NK → Value → Prop
  | .ptr, v => v = .pointer none
  | .sl, v => ∃ n c, v = .slice none n c
  | .map, v => v = .map none
  | .fn, v => v = .nilFunc

theorem nil_eval {nk : NK} {y : Operand} (h : isNilC nk y = true) (a : Act) : nk.isNilV (a.eval y) := by
  unfold isNilC at h
  split at h
  · rfl
  · exact ⟨_, _, rfl⟩
  · rfl
  · rfl
  · simp at h

theorem run_nil {xt : TypeId} {d : TypeDesc} {nk : NK} (hu : P.underlying xt = some d) (hd : nilT d = some nk) {x x' y : Value} {b : Bool} (hx : VR β x x') (hb : isNil nk x = some b) (hy : nk.isNilV y) (w : World) :
    (Op.equal xt x' y).run P w = .ok b w ∧ (Op.equal xt y x').run P w = .ok b w := by
  show (Op.equalIn (9999 + 1) xt _ _).run P w = _ ∧ (Op.equalIn (9999 + 1) xt _ _).run P w = _
  generalize 9999 = dd
  cases d <;> simp only [nilT] at hd <;> try (simp at hd; done)
  all_goals
    simp only [Option.some.injEq] at hd
    subst hd
    cases hx <;> simp only [isNil] at hb <;> try (simp at hb; done)
    all_goals
      simp only [Option.some.injEq] at hb
      subst hb
      simp only [NK.isNilV] at hy
      first
        | (obtain ⟨n, c, rfl⟩ := hy; constructor <;> simp [Op.equalIn, Sem.run_bind, run_under hu, Result.andThen])
        | (subst hy; constructor <;> simp [Op.equalIn, Sem.run_bind, run_under hu, Result.andThen])

theorem guard_nil {nk : NK} {x x' y : Value} {b : Bool} (hx : VR β x x') (hb : isNil nk x = some b) (hy : nk.isNilV y) (op : BinOp) (xt : TypeId) (u u' : Operand) : eqGuard op xt u u' x' y = pure () ∧ eqGuard op xt u u' y x' = pure () := by
  cases nk <;> cases hx <;> simp only [isNil] at hb <;> try (simp at hb; done)
  all_goals
    simp only [NK.isNilV] at hy
    first
      | (obtain ⟨n, c, rfl⟩ := hy; constructor <;> simp [eqGuard])
      | (subst hy; constructor <;> simp [eqGuard])

theorem bin_nil {nk : NK} {x x' y : Value} {b : Bool} (hx : VR β x x') (hb : isNil nk x = some b) (hy : nk.isNilV y) (xt : TypeId) :
    (binOp .eql xt x' y = do pure (.bool (← Op.equal xt x' y))) ∧ (binOp .neq xt x' y = do pure (.bool (!(← Op.equal xt x' y)))) ∧ (binOp .eql xt y x' = do pure (.bool (← Op.equal xt y x'))) ∧ (binOp .neq xt y x' = do pure (.bool (!(← Op.equal xt y x')))) := by
  cases nk <;> cases hx <;> simp only [isNil] at hb <;> try (simp at hb; done)
  all_goals
    simp only [NK.isNilV] at hy
    first
      | (obtain ⟨n, c, rfl⟩ := hy; exact ⟨rfl, rfl, rfl, rfl⟩)
      | (subst hy; exact ⟨rfl, rfl, rfl, rfl⟩)

theorem pure_eqNil {o : Oper} {op : BinOp} {xt yt : TypeId} {x y : Operand} (ho : o.op = .binOp op xt x y yt) {d : TypeDesc} {nk : NK} (hu : P.underlying xt = some d) (hdn : nilT d = some nk) {neg : Bool} (hop : op = .eql ∧ neg = false ∨ op = .neq ∧ neg = true)
    {z : Operand} {z' : Opd} (hz : cOpd z = some z') (hwhich : (z = x ∧ isNilC nk y = true) ∨ (z = y ∧ isNilC nk x = true)) (hd : doOp t s (.eqNil nk neg z') = some (v, s')) (ht : TR β t a.tmps) : s' = s ∧ PureOk P β a o v := by
  have ez := cOpd_eval hz ht
  simp only [doOp] at hd
  generalize z'.ev t = zv at hd ez
  cases hb : isNil nk zv with
  | none => simp [hb] at hd
  | some b =>
    simp [hb] at hd
    obtain ⟨rfl, rfl⟩ := hd
    refine ⟨rfl, _, .bool _, fun w => ?_⟩
    rw [boolXor_eq]
    rcases hwhich with ⟨rfl, hy⟩ | ⟨rfl, hy⟩
    · have hn := nil_eval hy a
      obtain ⟨r1, r2⟩ := run_nil hu hdn ez hb hn w
      obtain ⟨g1, g2⟩ := guard_nil ez hb hn op xt z y
      obtain ⟨b1, b2, b3, b4⟩ := bin_nil ez hb hn xt
      rcases hop with ⟨rfl, rfl⟩ | ⟨rfl, rfl⟩
      · simp [execOp, ho, Sem.run_bind, g1, b1, r1, Result.andThen]
      · simp [execOp, ho, Sem.run_bind, g1, b2, r1, Result.andThen]
    · have hn := nil_eval hy a
      obtain ⟨r1, r2⟩ := run_nil hu hdn ez hb hn w
      obtain ⟨g1, g2⟩ := guard_nil ez hb hn op xt x z
      obtain ⟨b1, b2, b3, b4⟩ := bin_nil ez hb hn xt
      rcases hop with ⟨rfl, rfl⟩ | ⟨rfl, rfl⟩
      · simp [execOp, ho, Sem.run_bind, g2, b3, r2, Result.andThen]
      · simp [execOp, ho, Sem.run_bind, g2, b4, r2, Result.andThen]

theorem pure_bin {o : Oper} {op : BinOp} {xt yt : TypeId} {x y : Operand} (ho : o.op = .binOp op xt x y yt) {x' y' : Opd} (hx : cOpd x = some x') (hy : cOpd y = some y') (hd : doOp t s (.bin op x' y') = some (v, s')) (ht : TR β t a.tmps) :
    s' = s ∧ PureOk P β a o v := by
  simp only [doOp] at hd
  cases hb : binF op (x'.ev t) (y'.ev t) with
  | none => simp [hb] at hd
  | some u =>
    simp [hb] at hd
    obtain ⟨rfl, rfl⟩ := hd
    obtain ⟨h1, h2, h3⟩ := binF_run hb (cOpd_eval hx ht) (cOpd_eval hy ht) xt
    exact ⟨rfl, u, h2, fun w => by simp [execOp, ho, h1, h3]⟩

theorem pure_eqB {o : Oper} {op : BinOp} {xt yt : TypeId} {x y : Operand} (ho : o.op = .binOp op xt x y yt) (hu : P.underlying xt = some .bool) {neg : Bool} (hop : op = .eql ∧ neg = false ∨ op = .neq ∧ neg = true)
    {x' y' : Opd} (hx : cOpd x = some x') (hy : cOpd y = some y') (hd : doOp t s (.eqB neg x' y') = some (v, s')) (ht : TR β t a.tmps) : s' = s ∧ PureOk P β a o v := by
  have ex := cOpd_eval hx ht
  have ey := cOpd_eval hy ht
  simp only [doOp] at hd
  generalize x'.ev t = xv at hd ex
  generalize y'.ev t = yv at hd ey
  generalize hxv : a.eval x = xv' at ex
  generalize hyv : a.eval y = yv' at ey
  cases ex <;> try (simp at hd; done)
  cases ey <;> try (simp at hd; done)
  rename_i b c
  simp only [Option.some.injEq, Prod.mk.injEq] at hd
  obtain ⟨rfl, rfl⟩ := hd
  have he : ∀ w, (Op.equal xt (.bool b) (.bool c)).run P w = .ok (b == c) w := fun w => run_equal_bool w xt b c hu
  refine ⟨rfl, _, .bool _, fun w => ?_⟩
  rcases hop with ⟨rfl, rfl⟩ | ⟨rfl, rfl⟩
  · simp [execOp, ho, hxv, hyv, eqGuard, binOp, Sem.run_bind, he, Result.andThen]
    cases b <;> cases c <;> rfl
  · simp [execOp, ho, hxv, hyv, eqGuard, binOp, Sem.run_bind, he, Result.andThen]
    cases b <;> cases c <;> rfl

theorem pure_eqFlat {o : Oper} {op : BinOp} {xt yt : TypeId} {x y : Operand} (ho : o.op = .binOp op xt x y yt) {ks : List FK} (hk : flatT P xt = some ks) (hg : P.eqGuardType P.depth xt = false) {neg : Bool} (hop : op = .eql ∧ neg = false ∨ op = .neq ∧ neg = true)
    {x' y' : Opd} (hx : cOpd x = some x') (hy : cOpd y = some y') (hd : doOp t s (.eqFlat (.row ks) neg x' y') = some (v, s')) (ht : TR β t a.tmps) : s' = s ∧ PureOk P β a o v := by
  have ex := cOpd_eval hx ht
  have ey := cOpd_eval hy ht
  simp only [doOp] at hd
  generalize x'.ev t = xv at hd ex
  generalize y'.ev t = yv at hd ey
  cases hb : flatEq (.row ks) xv yv with
  | none => simp [hb] at hd
  | some b =>
    simp [hb] at hd
    obtain ⟨rfl, rfl⟩ := hd
    cases xv <;> cases yv <;> simp [flatEq] at hb
    rename_i l m
    obtain ⟨l⟩ := l; obtain ⟨m⟩ := m
    simp at hb
    generalize hxv : a.eval x = xv' at ex
    generalize hyv : a.eval y = yv' at ey
    cases ex with | agg _ l' hl =>
    cases ey with | agg _ m' hm =>
    have same : ∀ {ks : List FK} {xs ys : List Value} {b : Bool}, flatEqs ks xs ys = some b → ∀ {xs' : List Value}, VRs β xs xs' → xs' = xs := by
      intro ks
      induction ks with
      | nil => intro xs ys b h xs' hv; cases xs <;> cases ys <;> simp [flatEqs] at h; cases hv; rfl
      | cons k ks ih =>
        intro xs ys b h xs' hv
        cases xs with
        | nil => simp [flatEqs] at h
        | cons x xs =>
          cases ys with
          | nil => simp [flatEqs] at h
          | cons y ys =>
            simp only [flatEqs] at h
            cases h1 : flatEq1 k x y with
            | none => simp [h1] at h
            | some c =>
              cases h2 : flatEqs ks xs ys with
              | none => cases c <;> simp [h1, h2] at h
              | some d =>
                cases hv with
                | cons _ x' _ xs'' hx hs => rw [has_same (flatEq1_spec h1).1 hx, ih h2 hs]
    have swap : ∀ {ks : List FK} {xs ys : List Value} {b : Bool}, flatEqs ks xs ys = some b → ∃ c, flatEqs ks ys xs = some c := by
      intro ks
      induction ks with
      | nil => intro xs ys b h; cases xs <;> cases ys <;> simp [flatEqs] at h; exact ⟨true, rfl⟩
      | cons k ks ih =>
        intro xs ys b h
        cases xs with
        | nil => simp [flatEqs] at h
        | cons x xs =>
          cases ys with
          | nil => simp [flatEqs] at h
          | cons y ys =>
            simp only [flatEqs] at h ⊢
            cases h1 : flatEq1 k x y with
            | none => simp [h1] at h
            | some c =>
              cases h2 : flatEqs ks xs ys with
              | none => cases c <;> simp [h1, h2] at h
              | some d =>
                obtain ⟨d', h3⟩ := ih h2
                have : ∃ c', flatEq1 k y x = some c' := by
                  unfold flatEq1 at h1
                  split at h1 <;> try (simp at h1; done)
                  · rename_i k1 a1 k2 b1
                    cases hk : decide (k1 = k2) with
                    | false => simp [hk] at h1
                    | true => obtain rfl := decide_kind hk; exact ⟨Int.beqF b1 a1, by simp [flatEq1]⟩
                  · exact ⟨_, rfl⟩
                  · exact ⟨_, rfl⟩
                obtain ⟨c', h4⟩ := this
                cases c' <;> simp [h4, h3]
    rw [same hb hl] at hxv
    obtain ⟨b2, hb2⟩ := swap hb
    rw [same hb2 hm] at hyv
    have he : ∀ w, (Op.equal xt (.agg ⟨l⟩) (.agg ⟨m⟩)).run P w = .ok b w := run_eqFlat hk hb
    refine ⟨rfl, _, .bool _, fun w => ?_⟩
    rw [boolXor_eq]
    rcases hop with ⟨rfl, rfl⟩ | ⟨rfl, rfl⟩
    · simp [execOp, ho, hxv, hyv, Sem.run_bind, run_eqGuard_agg w _ _ _ _ _ _ hg, binOp, he, Result.andThen]
    · simp [execOp, ho, hxv, hyv, Sem.run_bind, run_eqGuard_agg w _ _ _ _ _ _ hg, binOp, he, Result.andThen]

end
end Go.Ev
end

section
set_option linter.unusedSimpArgs false
set_option linter.unusedVariables false
namespace Go.Ev
open Go _root_.Ev Go.RowKit

section
variable {P : Program} {β : Bl} {t : T Value} {s s' : St} {a : Act} {v : Value} {cop : COp}

theorem pure_unOp {o : Oper} {op : UnOp} {xt : TypeId} {x : Operand} (ho : o.op = .unOp op xt x) (h : cOp P o = some cop) (hd : doOp t s cop = some (v, s')) (ht : TR β t a.tmps) : s' = s ∧ PureOk P β a o v := by
  simp only [cOp, ho] at h
  cases hx : cOpd x with
  | none => cases op <;> simp [hx] at h
  | some x' =>
    have e := cOpd_eval hx ht
    cases op <;> simp [hx] at h <;> subst h <;> simp only [doOp] at hd <;> generalize x'.ev t = xv at hd e <;> generalize hxv : a.eval x = xv' at e <;> cases e <;> try (simp at hd; done)
    all_goals
      simp only [Option.some.injEq, Prod.mk.injEq] at hd
      obtain ⟨rfl, rfl⟩ := hd
    · refine ⟨rfl, _, ?_, fun w => by simp [execOp, ho, hxv, Op.unary, Op.intArith]; rfl⟩
      rw [mkInt_eq, Int.zero_sub]; exact .int _ _
    · refine ⟨rfl, _, .bool _, fun w => ?_⟩
      rw [boolXor_eq]
      simp [execOp, ho, hxv, Op.unary]

theorem intN_some {x : Value} {n : Nat} (h : intN x = some n) {x' : Value} (hx : VR β x x') : ∃ k, x' = .int k (n : Nat) := by
  cases x <;> simp [intN] at h
  rename_i k m
  cases m <;> simp [intN] at h
  subst h
  cases hx
  exact ⟨k, rfl⟩

theorem utf8_one {n : Nat} (h : n ≤ 127) : Utf8.encode (n : Int) = ⟨⟨[UInt8.ofNat n]⟩⟩ := by
  have h1 : Utf8.valid (n : Int) = true := by simp [Utf8.valid]; omega
  have h2 : n < 128 := by omega
  simp [Utf8.encode, h1, h2]

theorem pure_convert {o : Oper} {st dt : TypeId} {x : Operand} (ho : o.op = .convert st dt x) (h : cOp P o = some cop) (hc : cop.cls = .pure) (hd : doOp t s cop = some (v, s')) (ht : TR β t a.tmps) : s' = s ∧ PureOk P β a o v := by
  simp only [cOp, ho] at h
  cases hx : cOpd x with
  | none => simp [hx] at h
  | some x' =>
    have e := cOpd_eval hx ht
    simp only [hx, Option.bind_eq_bind, Option.bind_some] at h
    cases hs : P.underlying st with
    | none => simp [hs] at h
    | some sd =>
      cases hdd : P.underlying dt with
      | none => simp [hs, hdd] at h
      | some dd =>
        cases sd <;> cases dd <;> simp only [hs, hdd] at h <;> try (simp at h; done)
        · -- int to int
          simp at h; subst h
          simp only [doOp] at hd
          generalize x'.ev t = xv at hd e
          generalize hxv : a.eval x = xv' at e
          cases e <;> try (simp at hd; done)
          simp only [Option.some.injEq, Prod.mk.injEq] at hd
          obtain ⟨rfl, rfl⟩ := hd
          refine ⟨rfl, _, ?_, fun w => by simp [execOp, ho, hxv, convert, Sem.run_bind, run_under hs, run_under hdd, Result.andThen, Conv.intToInt]; rfl⟩
          rw [mkInt_eq]; exact .int _ _
        · -- int to string
          simp at h; subst h
          simp only [doOp] at hd
          cases hn : intN (x'.ev t) with
          | none => simp [hn] at hd
          | some n =>
            obtain ⟨k, hk⟩ := intN_some hn e
            simp only [hn] at hd
            cases hb : Nat.ble n 127 with
            | false => simp [hb] at hd
            | true =>
              simp [hb] at hd
              obtain ⟨rfl, rfl⟩ := hd
              refine ⟨rfl, _, .string _, fun w => ?_⟩
              simp [execOp, ho, hk, convert, Sem.run_bind, run_under hs, run_under hdd, Result.andThen, Conv.intToString, utf8_one (Nat.le_of_ble_eq_true hb)]
        · -- string to string
          simp at h; subst h
          simp only [doOp] at hd
          generalize x'.ev t = xv at hd e
          generalize hxv : a.eval x = xv' at e
          cases e <;> try (simp at hd; done)
          simp only [Option.some.injEq, Prod.mk.injEq] at hd
          obtain ⟨rfl, rfl⟩ := hd
          exact ⟨rfl, _, .string _, fun w => by simp [execOp, ho, hxv, convert, Sem.run_bind, run_under hs, run_under hdd, Result.andThen]⟩
        · split at h <;> simp at h
          subst h
          simp [COp.cls] at hc
        · split at h <;> simp at h
          subst h
          simp [COp.cls] at hc

theorem pure_field {o : Oper} {xt : TypeId} {x : Operand} {f : Nat} (ho : o.op = .field xt x f) (h : cOp P o = some cop) (hd : doOp t s cop = some (v, s')) (ht : TR β t a.tmps) : s' = s ∧ PureOk P β a o v := by
  simp only [cOp, ho] at h
  cases hu : P.underlying xt with
  | none => simp [hu] at h
  | some d =>
    cases d <;> simp [hu] at h
    rename_i fs
    cases hf : fs[f]? with
    | none => simp [hf] at h
    | some fd =>
      simp [hf] at h
      cases hag : aggT P fd.type with
      | none => simp [hag] at h
      | some b =>
        cases hx : cOpd x with
        | none => cases b <;> simp [hag, hx] at h
        | some x' =>
          have e := cOpd_eval hx ht
          cases b with
          | false =>
            simp [hag, hx] at h; subst h
            simp only [doOp] at hd
            generalize x'.ev t = xv at hd e
            generalize hxv : a.eval x = xv' at e
            cases e <;> try (simp at hd; done)
            rename_i l l' hl
            simp only at hd
            cases hn : nth l fd.offset with
            | none => simp [hn] at hd
            | some u =>
              simp [hn] at hd
              obtain ⟨rfl, rfl⟩ := hd
              rw [nth_eq] at hn
              obtain ⟨u', h1, h2⟩ := hl.get hn
              exact ⟨rfl, u', h2, fun w => by simp [execOp, ho, hxv, Instr.field, Sem.run_bind, run_under hu, Result.andThen, hf, asAgg, part, run_agg hag, h1]⟩
          | true =>
            cases hz : sizeT P fd.type with
            | none => simp [hag, hx, hz] at h
            | some n =>
              simp [hag, hx, hz] at h; subst h
              simp only [doOp] at hd
              generalize x'.ev t = xv at hd e
              generalize hxv : a.eval x = xv' at e
              cases e <;> try (simp at hd; done)
              rename_i l l' hl
              simp only at hd
              cases hn : cut l fd.offset n with
              | none => simp [hn] at hd
              | some r =>
                simp [hn] at hd
                obtain ⟨rfl, rfl⟩ := hd
                obtain ⟨h1, rfl⟩ := cut_some _ _ _ _ hn
                refine ⟨rfl, _, .agg _ _ ((hl.drop fd.offset).take n), fun w => ?_⟩
                have : (⟨l'⟩ : Array Value).extract fd.offset (fd.offset + n) = ⟨(l'.drop fd.offset).take n⟩ := by
                  apply Array.ext'
                  simp [List.extract]
                simp [execOp, ho, hxv, Instr.field, Sem.run_bind, run_under hu, Result.andThen, hf, asAgg, part, run_agg hag, run_size hz]

theorem pure_indexAddr {o : Oper} {xt : TypeId} {x i : Operand} (ho : o.op = .indexAddr xt x i) (h : cOp P o = some cop) (hd : doOp t s cop = some (v, s')) (ht : TR β t a.tmps) : s' = s ∧ PureOk P β a o v := by
  simp only [cOp, ho] at h
  cases hu : P.underlying xt with
  | none => simp [hu] at h
  | some d =>
    cases hx : cOpd x with
    | none => cases d <;> simp [hu, hx] at h
    | some x' =>
      cases hi : cOpd i with
      | none => cases d <;> simp [hu, hx, hi] at h
      | some i' =>
        have e := cOpd_eval hx ht
        have ei := cOpd_eval hi ht
        cases d <;> simp only [hu] at h <;> try (simp at h; done)
        · rename_i el
          cases hz : sizeT P el with
          | none => simp [hx, hi, hz] at h
          | some z =>
            simp [hx, hi, hz] at h; subst h
            simp only [doOp] at hd
            generalize x'.ev t = xv at hd e
            generalize hxv : a.eval x = xv' at e
            cases hn : intN (i'.ev t) with
            | none => cases e <;> simp [hn] at hd
            | some m =>
              obtain ⟨k, hk⟩ := intN_some hn ei
              cases e <;> try (simp [hn, Nat.ble] at hd; done)
              · rename_i A p oo n c c' hA h1 h2 h3
                simp only [hn] at hd
                cases hb : Nat.ble (Nat.succ m) n with
                | false => simp [hb] at hd
                | true =>
                  have hlt := Nat.le_of_ble_eq_true hb
                  simp [hb] at hd
                  obtain ⟨rfl, rfl⟩ := hd
                  refine ⟨rfl, _, .ptr A p _ hA, fun w => ?_⟩
                  have hlt' : m < n := hlt
                  simp [execOp, ho, hxv, hk, Instr.indexAt, asIntOf, Sem.run_bind, run_under hu, Result.andThen, run_size hz, hlt', Addr.add]
                  split <;> simp_all [Nat.add_assoc]
        · -- an array's address
          rename_i n el
          cases hz : sizeT P el with
          | none => simp [hx, hi, hz] at h
          | some z =>
            simp [hx, hi, hz] at h; subst h
            simp only [doOp] at hd
            generalize x'.ev t = xv at hd e
            generalize hxv : a.eval x = xv' at e
            cases hn : intN (i'.ev t) with
            | none => cases hh : addrOf xv <;> simp [hh, hn] at hd
            | some m =>
              obtain ⟨k, hk⟩ := intN_some hn ei
              cases e <;> try (simp [addrOf] at hd; done)
              rename_i A p oo hA
              simp only [addrOf, hn] at hd
              cases hb : Nat.ble (Nat.succ m) n with
              | false => simp [hb] at hd
              | true =>
                have hlt := Nat.le_of_ble_eq_true hb
                simp [hb] at hd
                obtain ⟨rfl, rfl⟩ := hd
                refine ⟨rfl, _, .ptr A p _ hA, fun w => ?_⟩
                have hlt' : m < n := hlt
                simp [execOp, ho, hxv, hk, Instr.indexAt, asIntOf, Sem.run_bind, run_under hu, Result.andThen, Instr.sureAddr, run_size hz, hlt', Addr.add]
                split <;> simp_all [Nat.add_assoc]


theorem pure_index {o : Oper} {xt : TypeId} {x i : Operand} (ho : o.op = .index xt x i) (h : cOp P o = some cop) (hd : doOp t s cop = some (v, s')) (ht : TR β t a.tmps) : s' = s ∧ PureOk P β a o v := by
  simp only [cOp, ho] at h
  cases hu : P.underlying xt with
  | none => simp [hu] at h
  | some d =>
    cases hx : cOpd x with
    | none => cases d <;> simp [hu, hx] at h
              all_goals (cases hag : aggT P ‹_› with
                | none => simp [hag] at h
                | some b => cases b <;> simp [hag] at h
                            · obtain ⟨z, hz, h⟩ := Option.bind_eq_some_iff.1 h
                              split at h <;> simp at h)
    | some x' =>
      cases hi : cOpd i with
      | none => cases d <;> simp [hu, hx, hi] at h
                all_goals (cases hag : aggT P ‹_› with
                  | none => simp [hag] at h
                  | some b => cases b <;> simp [hag] at h
                              · obtain ⟨z, hz, h⟩ := Option.bind_eq_some_iff.1 h
                                split at h <;> simp at h)
      | some i' =>
        have e := cOpd_eval hx ht
        have ei := cOpd_eval hi ht
        cases d <;> simp only [hu] at h <;> try (simp at h; done)
        · -- a string
          simp [hx, hi] at h; subst h
          simp only [doOp] at hd
          generalize x'.ev t = xv at hd e
          generalize hxv : a.eval x = xv' at e
          cases hn : intN (i'.ev t) with
          | none => cases e <;> simp [hn] at hd
          | some m =>
            obtain ⟨k, hk⟩ := intN_some hn ei
            cases e <;> try (simp [hn] at hd; done)
            rename_i b
            simp only [hn] at hd
            cases hb : nth b.data.toList m with
            | none => simp [hb] at hd
            | some c =>
              simp [hb] at hd
              obtain ⟨rfl, rfl⟩ := hd
              rw [nth_eq] at hb
              refine ⟨rfl, _, .int _ _, fun w => ?_⟩
              have hg : b[m]? = some c := by
                have : b[m]? = b.data[m]? := by
                  by_cases hh : m < b.size
                  · rw [getElem?_pos b m hh, getElem?_pos b.data m hh]; rfl
                  · rw [getElem?_neg b m hh, getElem?_neg b.data m hh]
                rw [this]; simpa using hb
              simp [execOp, ho, hxv, hk, Instr.index, asIntOf, Sem.run_bind, run_under hu, Result.andThen, hg]
        · -- an array
          rename_i n el
          cases hag : aggT P el with
          | none => simp [hag] at h
          | some b =>
            cases hz : sizeT P el with
            | none => cases b <;> simp [hag, hz] at h
            | some z =>
              cases b with
              | true =>
                simp [hag, hz, hx, hi] at h; subst h
                simp only [doOp] at hd
                generalize x'.ev t = xv at hd e
                generalize hxv : a.eval x = xv' at e
                cases hn : intN (i'.ev t) with
                | none => cases e <;> simp [hn] at hd
                | some m =>
                  obtain ⟨k, hk⟩ := intN_some hn ei
                  cases e <;> try (simp [hn] at hd; done)
                  rename_i l l' hl
                  simp only [hn] at hd
                  cases hb : Nat.ble (Nat.succ m) n with
                  | false => simp [hb] at hd
                  | true =>
                    have hlt : m < n := Nat.le_of_ble_eq_true hb
                    simp only [hb] at hd
                    cases hc : cut l (m * z) z with
                    | none => simp [hc] at hd
                    | some r =>
                      simp [hc] at hd
                      obtain ⟨rfl, rfl⟩ := hd
                      obtain ⟨h1, rfl⟩ := cut_some _ _ _ _ hc
                      refine ⟨rfl, _, .agg _ _ ((hl.drop (m * z)).take z), fun w => ?_⟩
                      simp [execOp, ho, hxv, hk, Instr.index, asIntOf, Sem.run_bind, run_under hu, Result.andThen, hlt, part, run_agg hag, run_size hz]
              | false =>
                simp [hag, hz] at h
                split at h <;> simp [hx, hi] at h
                subst h
                simp only [doOp] at hd
                generalize x'.ev t = xv at hd e
                generalize hxv : a.eval x = xv' at e
                cases hn : intN (i'.ev t) with
                | none => cases e <;> simp [hn] at hd
                | some m =>
                  obtain ⟨k, hk⟩ := intN_some hn ei
                  cases e <;> try (simp [hn] at hd; done)
                  rename_i l l' hl
                  simp only [hn] at hd
                  cases hb : Nat.ble (Nat.succ m) n with
                  | false => simp [hb] at hd
                  | true =>
                    have hlt : m < n := Nat.le_of_ble_eq_true hb
                    simp only [hb] at hd
                    cases hc : nth l m with
                    | none => simp [hc] at hd
                    | some r =>
                      simp [hc] at hd
                      obtain ⟨rfl, rfl⟩ := hd
                      rw [nth_eq] at hc
                      obtain ⟨u', h1, h2⟩ := hl.get hc
                      exact ⟨rfl, u', h2, fun w => by simp [execOp, ho, hxv, hk, Instr.index, asIntOf, Sem.run_bind, run_under hu, Result.andThen, hlt, part, run_agg hag, run_size hz, h1]⟩

/-- The cells of a value. -/
theorem VR.cells {x x' : Value} (h : VR β x x') : VRs β (cellsOfV x) x'.cells.toList := by
  cases h <;> simp [cellsOfV, Value.cells] <;> first
    | assumption
    | exact .cons _ _ _ _ (by constructor <;> assumption) .nil
    | exact .cons _ _ _ _ (by constructor) .nil


/-! ### structs and arrays by their parts; strings cut -/

theorem fill_ok : ∀ {ps : List (Nat × Nat × Value)} {cs cs' r : List Value} {qs : List (Nat × Value)} {place : Nat → Option (Nat × Nat)}, fillF cs ps = some r → VRs β cs cs' →
    ps.length = qs.length → (∀ (j : Nat) (off n : Nat) (u : Value) (i : Nat) (u' : Value), ps[j]? = some (off, n, u) → qs[j]? = some (i, u') → place i = some (off, n) ∧ VR β u u') →
    ∃ r', Instr.fill place ⟨cs'⟩ qs = some ⟨r'⟩ ∧ VRs β r r'
  | [], cs, cs', r, qs, place, h, hv, hl, _ => by
    cases qs with
    | nil => simp [fillF] at h; subst h; exact ⟨cs', rfl, hv⟩
    | cons q qs => simp at hl
  | (off, n, u) :: ps, cs, cs', r, [], place, h, hv, hl, _ => by simp at hl
  | (off, n, u) :: ps, cs, cs', r, (i, u') :: qs, place, h, hv, hl, hp => by
    simp only [fillF] at h
    cases h1 : Nat.beq (len (cellsOfV u) 0) n with
    | false => simp [h1] at h
    | true =>
      simp only [h1] at h
      cases h2 : spl cs off (cellsOfV u) with
      | none => simp [h2] at h
      | some cs1 =>
        simp only [h2] at h
        obtain ⟨hpl, hu⟩ := hp 0 off n u i u' rfl rfl
        have hc := hu.cells
        have hn := Nat.eq_of_beq_eq_true h1
        rw [len_eq] at hn
        obtain ⟨k1, k2, k3⟩ := spl_some _ _ _ _ h2
        have hcl := hc.length
        have hvl := hv.length
        -- what the machine makes of its cells
        have key : ∀ (vs : List Value) (j : Nat) (cur : Array Value), (∀ m, ((vs.zipIdx j).foldl (fun (cs : Array Value) (p : Value × Nat) => cs.setIfInBounds (off + p.2) p.1) cur)[m]? = if off + j ≤ m ∧ m < off + j + vs.length ∧ m < cur.size then vs[m - (off + j)]? else cur[m]?) ∧
            ((vs.zipIdx j).foldl (fun (cs : Array Value) (p : Value × Nat) => cs.setIfInBounds (off + p.2) p.1) cur).size = cur.size := by
          intro vs
          induction vs with
          | nil => intro j cur; exact ⟨fun m => by simp; omega, rfl⟩
          | cons v vs ih =>
            intro j cur
            simp only [List.zipIdx_cons, List.foldl_cons]
            obtain ⟨i1, i2⟩ := ih (j + 1) (cur.setIfInBounds (off + j) v)
            refine ⟨fun m => ?_, by rw [i2]; simp⟩
            rw [i1]
            simp only [Array.size_setIfInBounds, List.length_cons]
            by_cases c1 : off + (j + 1) ≤ m ∧ m < off + (j + 1) + vs.length ∧ m < cur.size
            · rw [if_pos c1, if_pos (by omega)]
              have : m - (off + j) = (m - (off + (j + 1))) + 1 := by omega
              rw [this]; simp
            · rw [if_neg c1]
              by_cases c2 : m = off + j
              · subst c2
                by_cases c3 : off + j < cur.size
                · rw [if_pos (by omega)]; simp [c3]
                · rw [if_neg (by omega)]; simp [c3]
              · rw [if_neg (by omega), Array.getElem?_setIfInBounds_ne (by omega)]
        obtain ⟨j1, j2⟩ := key u'.cells.toList 0 ⟨cs'⟩
        have hsz : u'.cells.size = n := by rw [← Array.length_toList, ← hcl]; omega
        have hsz2 : off + u'.cells.size ≤ cs'.length := by rw [hsz, ← hvl]; omega
        obtain ⟨r', h3, h4⟩ := fill_ok (cs' := ((u'.cells.toList.zipIdx 0).foldl (fun (cs : Array Value) (p : Value × Nat) => cs.setIfInBounds (off + p.2) p.1) (⟨cs'⟩ : Array Value)).toList) (place := place) (qs := qs) h
          (VRs.of_get (by have e1 := j2; rw [← Array.length_toList] at e1; rw [e1]; simpa [k2] using hvl) fun m x x' hx hx' => by
            rw [k3] at hx
            rw [Array.getElem?_toList, j1] at hx'
            by_cases c : off ≤ m ∧ m < off + (cellsOfV u).length
            · rw [if_pos c] at hx
              rw [if_pos (by simp; omega)] at hx'
              obtain ⟨y, y1, y2⟩ := hc.get hx
              have : m - (off + 0) = m - off := by omega
              rw [this, y1] at hx'
              cases hx'
              exact y2
            · rw [if_neg c] at hx
              rw [if_neg (by simp at c ⊢; omega)] at hx'
              obtain ⟨y, y1, y2⟩ := hv.get hx
              have : cs'[m]? = some x' := by simpa using hx'
              rw [y1] at this
              cases this
              exact y2) (by simpa using hl) (fun j off n u i u' a b => hp (j + 1) off n u i u' (by simpa using a) (by simpa using b))
        refine ⟨r', ?_, h4⟩
        simp only [Instr.fill, hpl]
        rw [if_neg (by simp; omega)]
        rw [← h3]
        congr 1
        rw [← Array.foldl_toList]
        simp

theorem partsOf_ok {place : Nat → Option (Nat × Nat)} : ∀ {l : List (Nat × Operand)} {r : List (Nat × Nat × Opd)}, partsOf place l = some r → TR β t a.tmps →
    (partsV t r).length = (l.map fun (p : Nat × Operand) => (p.1, a.eval p.2)).length ∧ ∀ (j off n : Nat) (u : Value) (i : Nat) (u' : Value), (partsV t r)[j]? = some (off, n, u) → (l.map fun (p : Nat × Operand) => (p.1, a.eval p.2))[j]? = some (i, u') → place i = some (off, n) ∧ VR β u u'
  | [], r, h, _ => by simp [partsOf] at h; subst h; exact ⟨rfl, fun j off n u i u' a b => by simp at b⟩
  | (i, x) :: l, r, h, ht => by
    simp only [partsOf] at h
    cases h1 : place i with
    | none => simp [h1] at h
    | some pl =>
      obtain ⟨off, n⟩ := pl
      cases h2 : cOpd x with
      | none => simp [h1, h2] at h
      | some y =>
        cases h3 : partsOf place l with
        | none => simp [h1, h2, h3] at h
        | some ys =>
          simp [h1, h2, h3] at h; subst h
          obtain ⟨k1, k2⟩ := partsOf_ok h3 ht
          refine ⟨by simp [partsV]; simpa using k1, fun j off' n' u i' u' ha hb => ?_⟩
          cases j with
          | zero =>
            simp [partsV] at ha hb
            obtain ⟨rfl, rfl, rfl⟩ := ha
            obtain ⟨rfl, rfl⟩ := hb
            exact ⟨h1, cOpd_eval h2 ht⟩
          | succ j => exact k2 j off' n' u i' u' (by simpa [partsV] using ha) (by simpa using hb)

theorem partsOfS_ok {z : Nat} : ∀ {l : List (Nat × Operand)} {r : List (Nat × Opd)}, partsOfS l = some r → TR β t a.tmps →
    (partsS t z r).length = (l.map fun (p : Nat × Operand) => (p.1, a.eval p.2)).length ∧ ∀ (j off n : Nat) (u : Value) (i : Nat) (u' : Value), (partsS t z r)[j]? = some (off, n, u) → (l.map fun (p : Nat × Operand) => (p.1, a.eval p.2))[j]? = some (i, u') → some (i * z, z) = some (off, n) ∧ VR β u u'
  | [], r, h, _ => by simp [partsOfS] at h; subst h; exact ⟨rfl, fun j off n u i u' a b => by simp at b⟩
  | (i, x) :: l, r, h, ht => by
    simp only [partsOfS] at h
    cases h2 : cOpd x with
    | none => simp [h2] at h
    | some y =>
      cases h3 : partsOfS l with
      | none => simp [h2, h3] at h
      | some ys =>
        simp [h2, h3] at h; subst h
        obtain ⟨k1, k2⟩ := partsOfS_ok (z := z) h3 ht
        refine ⟨by simp [partsS]; simpa using k1, fun j off' n' u i' u' ha hb => ?_⟩
        cases j with
        | zero =>
          simp [partsS] at ha hb
          obtain ⟨rfl, rfl, rfl⟩ := ha
          obtain ⟨rfl, rfl⟩ := hb
          exact ⟨rfl, cOpd_eval h2 ht⟩
        | succ j => exact k2 j off' n' u i' u' (by simpa [partsS] using ha) (by simpa using hb)

end
end Go.Ev
end
