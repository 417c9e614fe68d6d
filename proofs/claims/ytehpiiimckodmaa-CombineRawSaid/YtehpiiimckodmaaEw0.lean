/- Pieces of memory that are ours; values of any make. -/
import Derived.Test.YtehpiiimckodmaaEv5
import GoSem.ClaimJoined
import Derived.ChangeSlices
import Derived.ChangeArms
import Derived.WideShapes
import Derived.DataElems
set_option linter.unusedVariables false
set_option linter.unusedSimpArgs false
section
set_option linter.unusedVariables false
namespace Go.EvW
open Go Go.Ev _root_.Ev

/-- A piece of memory: its blocks, and what is so of it. -/
structure Item where
  fp : List Nat
  ok : St → Prop
  st : ∀ {s s' : St}, s.nextId ≤ s'.nextId → (∀ B, B ∈ fp → s'.obj B = s.obj B) → ok s → ok s'
  lt : ∀ {s : St}, ok s → ∀ B, B ∈ fp → B < s.nextId

def Item.emp : Item := ⟨[], fun _ => True, fun _ _ _ => trivial, fun _ B h => by cases h⟩

def Item.own (A z : Nat) (cs : List Value) : Item := ⟨[A], fun s => Own s A z cs,
  fun {s s'} h1 h2 ⟨h3, e, g, h4⟩ => ⟨Nat.lt_of_lt_of_le h3 h1, e, g, by rw [h2 A (List.mem_singleton.2 rfl)]; exact h4⟩,
  fun {s} h B hB => by rw [List.mem_singleton] at hB; subst hB; exact h.1⟩

def Item.map (A : Nat) (es : List (Value × Value × Nat)) : Item := ⟨[A], fun s => MapAt s A es,
  fun {s s'} h1 h2 ⟨h3, c, h4⟩ => ⟨Nat.lt_of_lt_of_le h3 h1, c, by rw [h2 A (List.mem_singleton.2 rfl)]; exact h4⟩,
  fun {s} h B hB => by rw [List.mem_singleton] at hB; subst hB; exact h.1⟩

def blks : Value → List Nat
  | .slice (some a) _ _ => [a.block]
  | _ => []

def Lsv (s : St) (z : Nat) (v : Value) (cells : List Value) : Prop := ∃ A, Lst s A z v cells ∧ blks v = if cells = [] then [] else [A]

theorem Lsv.of {s : St} {A z : Nat} {v : Value} {cells : List Value} (h : Lst s A z v cells) : Lsv s z v cells := by
  refine ⟨A, h, ?_⟩
  rcases h with ⟨rfl, rfl⟩ | ⟨n, rfl, _, _, h⟩
  · rfl
  · rw [if_neg h]; rfl

theorem Lsv.nil {s : St} {z : Nat} : Lsv s z (.slice none 0 0) [] := Lsv.of (A := 0) Lst.nil

def Item.lst (z : Nat) (v : Value) (cells : List Value) : Item := ⟨blks v, fun s => Lsv s z v cells,
  fun {s s'} h1 h2 ⟨A, h3, h4⟩ => ⟨A, by
      rcases h3 with h | ⟨n, e, hl, ⟨hlt, e', g, ho⟩, hne⟩
      · exact .inl h
      · exact .inr ⟨n, e, hl, ⟨Nat.lt_of_lt_of_le hlt h1, e', g, by rw [h2 A (by rw [h4, if_neg hne]; exact List.mem_singleton.2 rfl)]; exact ho⟩, hne⟩, h4⟩,
  fun {s} ⟨A, h3, h4⟩ B hB => by
    rw [h4] at hB
    by_cases hc : cells = []
    · rw [if_pos hc] at hB; cases hB
    · rw [if_neg hc, List.mem_singleton] at hB; subst hB; exact h3.lt hc⟩

/-- A list of rows of whole numbers: its own block, and those of the rows. -/
structure Rws (s : St) (v : Value) (vs : List Value) (N : List (List Int)) (F : List Nat) : Prop where
  lsv : Lsv s 1 v vs
  len : vs.length = N.length
  row : ∀ (i : Nat) (u : Value) (r : List Int), vs[i]? = some u → N[i]? = some r → IsInts s (fun B => B ∈ F ∧ B ∉ blks v) u r
  lt : ∀ B, B ∈ F → B < s.nextId
  own : ∀ B, B ∈ blks v → B ∈ F

theorem Lsv.mono {s s' : St} {z : Nat} {v : Value} {cells : List Value} (h1 : s.nextId ≤ s'.nextId) (h2 : ∀ B, B ∈ blks v → s'.obj B = s.obj B) (h : Lsv s z v cells) : Lsv s' z v cells := (Item.lst z v cells).st h1 h2 h

theorem Sl.mono2 {s s' : St} {P : Nat → Prop} {z n : Nat} {v : Value} {cells : List Value} (h1 : s.nextId ≤ s'.nextId) (h2 : ∀ B, P B → s'.obj B = s.obj B) (h : Sl s P z v n cells) : Sl s' P z v n cells :=
  h.chg (M := fun B => ¬ P B) ⟨h1, fun B _ hM => h2 B (Classical.byContradiction hM)⟩ (fun A hA hn => hn hA)

def Item.rows (v : Value) (vs : List Value) (N : List (List Int)) (F : List Nat) : Item := ⟨F, fun s => Rws s v vs N F,
  fun {s s'} h1 h2 h => ⟨h.lsv.mono h1 (fun B hB => h2 B (h.own B hB)), h.len, fun i u r hu hr => Sl.mono2 h1 (fun B hB => h2 B hB.1) (h.row i u r hu hr), fun B hB => Nat.lt_of_lt_of_le (h.lt B hB) h1, h.own⟩,
  fun {s} h B hB => h.lt B hB⟩

/-- What was there before is as it was; what is ours lies apart. -/
structure Hs (N : Nat) (s0 s : St) (L : List Item) : Prop where
  ext : Ext N s0 s
  base : N ≤ s0.nextId
  ok : ∀ (i : Nat) (x : Item), L[i]? = some x → x.ok s
  ge : ∀ (i : Nat) (x : Item), L[i]? = some x → ∀ B, B ∈ x.fp → N ≤ B
  dj : ∀ (i j : Nat) (x y : Item), i ≠ j → L[i]? = some x → L[j]? = some y → ∀ B, B ∈ x.fp → B ∉ y.fp

section
variable {N : Nat} {s0 s s' : St} {L : List Item} {x y z : Item} {M : Nat → Prop} {prog : Nat → Option CFunc} {ρ : Env} {Q : Env → St → Prop}

theorem Hs.start (s : St) : Hs s.nextId s s [] := ⟨Chg.refl _, Nat.le_refl _, fun i x h => by simp at h, fun i x h => by simp at h, fun i j x y _ h => by simp at h⟩

theorem Hs.le (H : Hs N s0 s L) : s0.nextId ≤ s.nextId := H.ext.1

/-- A piece gives way to another one. -/
theorem Hs.upd (H : Hs N s0 s L) {i : Nat} (hi : L[i]? = some x) (c : Chg M s s') (hM : ∀ B, M B → B ∈ x.fp) (hy : y.ok s') (hfp : ∀ B, B ∈ y.fp → B ∈ x.fp ∨ s.nextId ≤ B) : Hs N s0 s' (L.set i y) := by
  have hil : i < L.length := (List.getElem?_eq_some_iff.1 hi).1
  have get : ∀ (j : Nat) (w : Item), (L.set i y)[j]? = some w → (j = i ∧ w = y) ∨ (j ≠ i ∧ L[j]? = some w) := fun j w h => by
    rw [List.getElem?_set] at h
    by_cases e : i = j
    · subst e; simp [hil] at h; exact .inl ⟨rfl, h.symm⟩
    · rw [if_neg e] at h; exact .inr ⟨fun h => e h.symm, h⟩
  have hge : ∀ B, B ∈ y.fp → N ≤ B := fun B hB => by
    rcases hfp B hB with h | h
    · exact H.ge i x hi B h
    · exact Nat.le_trans H.base (Nat.le_trans H.le h)
  have hdj : ∀ (j : Nat) (w : Item), j ≠ i → L[j]? = some w → ∀ B, B ∈ y.fp → B ∉ w.fp := fun j w hj hw B hB hB' => by
    rcases hfp B hB with h | h
    · exact H.dj i j x w (fun e => hj e.symm) hi hw B h hB'
    · exact absurd (w.lt (H.ok j w hw) B hB') (by omega)
  refine ⟨H.ext.step c fun B _ hB => H.ge i x hi B (hM B hB), H.base, fun j w hw => ?_, fun j w hw B hB => ?_, fun j k w u hjk hw hu B hB => ?_⟩
  · rcases get j w hw with ⟨rfl, rfl⟩ | ⟨hj, hw⟩
    · exact hy
    · exact w.st c.1 (fun B hB => c.2 B (w.lt (H.ok j w hw) B hB) fun hm => H.dj i j x w (fun e => hj e.symm) hi hw B (hM B hm) hB) (H.ok j w hw)
  · rcases get j w hw with ⟨rfl, rfl⟩ | ⟨hj, hw⟩
    · exact hge B hB
    · exact H.ge j w hw B hB
  · rcases get j w hw with ⟨rfl, rfl⟩ | ⟨hj, hw2⟩
    · rcases get k u hu with ⟨rfl, rfl⟩ | ⟨hk, hu⟩
      · exact absurd rfl hjk
      · exact hdj k u hk hu B hB
    · rcases get k u hu with ⟨rfl, rfl⟩ | ⟨hk, hu⟩
      · exact fun hB' => hdj j w hj hw2 B hB' hB
      · exact H.dj j k w u hjk hw2 hu B hB

theorem Hs.pur (H : Hs N s0 s L) (c : Pur s s') : Hs N s0 s' L :=
  ⟨H.ext.thenP c, H.base, fun j w hw => w.st c.1 (fun B hB => c.2 B (w.lt (H.ok j w hw) B hB) (fun h => h)) (H.ok j w hw), H.ge, H.dj⟩

/-- One more piece, of new blocks. -/
theorem Hs.add (H : Hs N s0 s L) (c : Pur s s') (hy : y.ok s') (hfp : ∀ B, B ∈ y.fp → s.nextId ≤ B) : Hs N s0 s' (L ++ [y]) := by
  have H' := H.pur c
  have get : ∀ (j : Nat) (w : Item), (L ++ [y])[j]? = some w → L[j]? = some w ∨ (j = L.length ∧ w = y) := fun j w h => by
    rw [List.getElem?_append] at h
    split at h
    · exact .inl h
    · rename_i hj
      cases hk : j - L.length with
      | zero => rw [hk] at h; simp at h; exact .inr ⟨by omega, h.symm⟩
      | succ k => rw [hk] at h; simp at h
  have hd : ∀ (j : Nat) (w : Item), L[j]? = some w → ∀ B, B ∈ y.fp → B ∉ w.fp := fun j w hw B hB hB' => absurd (w.lt (H.ok j w hw) B hB') (by have := hfp B hB; omega)
  refine ⟨H'.ext, H.base, fun j w hw => ?_, fun j w hw B hB => ?_, fun j k w u hjk hw hu B hB => ?_⟩
  · rcases get j w hw with hw | ⟨_, rfl⟩
    · exact H'.ok j w hw
    · exact hy
  · rcases get j w hw with hw | ⟨_, rfl⟩
    · exact H.ge j w hw B hB
    · exact Nat.le_trans H.base (Nat.le_trans H.le (hfp B hB))
  · rcases get j w hw with hw2 | ⟨hj, rfl⟩
    · rcases get k u hu with hu2 | ⟨hk, rfl⟩
      · exact H.dj j k w u hjk hw2 hu2 B hB
      · exact fun hB' => hd j w hw2 B hB' hB
    · rcases get k u hu with hu2 | ⟨hk, rfl⟩
      · exact hd k u hu2 B hB
      · omega

/-- Two pieces become one. -/
theorem Hs.merge (H : Hs N s0 s L) {i j : Nat} (hij : i ≠ j) (hi : L[i]? = some x) (hj : L[j]? = some y) (c : Chg M s s') (hM : ∀ B, M B → B ∈ x.fp ∨ B ∈ y.fp) (hz : z.ok s') (hfp : ∀ B, B ∈ z.fp → B ∈ x.fp ∨ B ∈ y.fp ∨ s.nextId ≤ B) :
    Hs N s0 s' ((L.set i z).set j Item.emp) := by
  have hil : i < L.length := (List.getElem?_eq_some_iff.1 hi).1
  have hjl : j < L.length := (List.getElem?_eq_some_iff.1 hj).1
  have get : ∀ (k : Nat) (w : Item), ((L.set i z).set j Item.emp)[k]? = some w → (k = i ∧ w = z) ∨ (k = j ∧ w = Item.emp) ∨ (k ≠ i ∧ k ≠ j ∧ L[k]? = some w) := fun k w h => by
    rw [List.getElem?_set, List.getElem?_set] at h
    by_cases e : j = k
    · subst e; simp [hjl] at h; exact .inr (.inl ⟨rfl, h.symm⟩)
    · rw [if_neg e] at h
      by_cases e' : i = k
      · subst e'; simp [hil] at h; exact .inl ⟨rfl, h.symm⟩
      · rw [if_neg e'] at h; exact .inr (.inr ⟨fun h => e' h.symm, fun h => e h.symm, h⟩)
  have hdj : ∀ (k : Nat) (w : Item), k ≠ i → k ≠ j → L[k]? = some w → ∀ B, B ∈ z.fp → B ∉ w.fp := fun k w hk hk' hw B hB hB' => by
    rcases hfp B hB with h | h | h
    · exact H.dj i k x w (fun e => hk e.symm) hi hw B h hB'
    · exact H.dj j k y w (fun e => hk' e.symm) hj hw B h hB'
    · exact absurd (w.lt (H.ok k w hw) B hB') (by omega)
  refine ⟨H.ext.step c fun B _ hB => ?_, H.base, fun k w hw => ?_, fun k w hw B hB => ?_, fun k l w u hkl hw hu B hB => ?_⟩
  · rcases hM B hB with h | h
    · exact H.ge i x hi B h
    · exact H.ge j y hj B h
  · rcases get k w hw with ⟨rfl, rfl⟩ | ⟨rfl, rfl⟩ | ⟨hk, hk', hw⟩
    · exact hz
    · trivial
    · exact w.st c.1 (fun B hB => c.2 B (w.lt (H.ok k w hw) B hB) fun hm => by
        rcases hM B hm with h | h
        · exact H.dj i k x w (fun e => hk e.symm) hi hw B h hB
        · exact H.dj j k y w (fun e => hk' e.symm) hj hw B h hB) (H.ok k w hw)
  · rcases get k w hw with ⟨rfl, rfl⟩ | ⟨rfl, rfl⟩ | ⟨hk, hk', hw⟩
    · rcases hfp B hB with h | h | h
      · exact H.ge _ x hi B h
      · exact H.ge j y hj B h
      · exact Nat.le_trans H.base (Nat.le_trans H.le h)
    · cases hB
    · exact H.ge k w hw B hB
  · rcases get k w hw with ⟨rfl, rfl⟩ | ⟨rfl, rfl⟩ | ⟨hk, hk', hw2⟩
    · rcases get l u hu with ⟨rfl, rfl⟩ | ⟨rfl, rfl⟩ | ⟨hl, hl', hu⟩
      · exact absurd rfl hkl
      · intro h; cases h
      · exact hdj l u hl hl' hu B hB
    · cases hB
    · rcases get l u hu with ⟨rfl, rfl⟩ | ⟨rfl, rfl⟩ | ⟨hl, hl', hu⟩
      · exact fun hB' => hdj k w hk hk' hw2 B hB' hB
      · intro h; cases h
      · exact H.dj k l w u hkl hw2 hu B hB

/-- The same piece, told anew. -/
theorem Hs.as (H : Hs N s0 s L) (i : Nat) (hi : L[i]? = some x) (hy : y.ok s) (hfp : ∀ B, B ∈ y.fp → B ∈ x.fp) : Hs N s0 s (L.set i y) :=
  H.upd hi (M := fun _ => False) (Chg.refl _) (fun _ h => h.elim) hy fun B hB => .inl (hfp B hB)

/-! ### what is read -/

theorem Hs.own (H : Hs N s0 s L) (i : Nat) {A z : Nat} {cs : List Value} (hi : L[i]? = some (Item.own A z cs)) : Own s A z cs := H.ok i _ hi
theorem Hs.row (H : Hs N s0 s L) (i : Nat) {A z : Nat} {cs : List Value} (hi : L[i]? = some (Item.own A z cs)) : Row s A z cs := (H.ok i _ hi : Own s A z cs).row
theorem Hs.lsv (H : Hs N s0 s L) (i : Nat) {z : Nat} {v : Value} {cs : List Value} (hi : L[i]? = some (Item.lst z v cs)) : Lsv s z v cs := H.ok i _ hi
theorem Hs.mapAt (H : Hs N s0 s L) (i : Nat) {A : Nat} {es : List (Value × Value × Nat)} (hi : L[i]? = some (Item.map A es)) : MapAt s A es := H.ok i _ hi
theorem Hs.rws (H : Hs N s0 s L) (i : Nat) {v : Value} {vs : List Value} {R : List (List Int)} {F : List Nat} (hi : L[i]? = some (Item.rows v vs R F)) : Rws s v vs R F := H.ok i _ hi

/-- An argument is as it was. -/
theorem Sl.at {P : Nat → Prop} {z n : Nat} {v : Value} {cells : List Value} (h : Sl s0 P z v n cells) (H : Hs N s0 s L) (hP : ∀ A, P A → A < N) : Sl s P z v n cells :=
  h.chg H.ext fun A hA hn => absurd (hP A hA) (by omega)

theorem Lsv.sl {z n : Nat} {v : Value} {cells : List Value} (h : Lsv s z v cells) (hz : 0 < z) (hn : cells.length = n * z) : Sl s (fun B => B ∈ blks v) z v n cells := by
  obtain ⟨A, h1, h2⟩ := h
  exact h1.sl hz hn fun hc => by rw [h2, if_neg hc]; exact List.mem_singleton.2 rfl
theorem Hs.ints (H : Hs N s0 s L) (i : Nat) {v : Value} {xs : List Int} (hi : L[i]? = some (Item.lst 1 v (enI xs))) : IsInts s (fun B => B ∈ blks v) v xs := (H.lsv i hi).sl (by omega) (by simp)
theorem Hs.bools (H : Hs N s0 s L) (i : Nat) {v : Value} {xs : List Bool} (hi : L[i]? = some (Item.lst 1 v (enB xs))) : IsBools s (fun B => B ∈ blks v) v xs := (H.lsv i hi).sl (by omega) (by simp)
theorem Hs.bytes (H : Hs N s0 s L) (i : Nat) {v : Value} {xs : List UInt8} (hi : L[i]? = some (Item.lst 1 v (enU xs))) : IsBytes s (fun B => B ∈ blks v) v xs := (H.lsv i hi).sl (by omega) (by simp)
/-- A row that is ours, as a slice of whole numbers. -/
theorem Hs.oints (H : Hs N s0 s L) (i : Nat) {A n : Nat} {xs : List Int} (hi : L[i]? = some (Item.own A 1 (enI xs))) (hn : n = xs.length) : Sl s (fun B => B = A) 1 (.slice (some ⟨A, 0, none⟩) n n) n (enI xs) := Sl.of_own (H.own i hi) rfl (by simp [hn])
theorem Hs.obools (H : Hs N s0 s L) (i : Nat) {A n : Nat} {xs : List Bool} (hi : L[i]? = some (Item.own A 1 (enB xs))) (hn : n = xs.length) : Sl s (fun B => B = A) 1 (.slice (some ⟨A, 0, none⟩) n n) n (enB xs) := Sl.of_own (H.own i hi) rfl (by simp [hn])
end
end Go.EvW
end

section
set_option linter.unusedVariables false
namespace Go.EvW
open Go Go.Ev _root_.Ev

def IsRows (s : St) (P : Nat → Prop) (v : Value) (R : List (List Int)) : Prop := ∃ vs, Sl s P 1 v R.length vs ∧ ∀ (i : Nat) (u : Value) (r : List Int), vs[i]? = some u → R[i]? = some r → IsInts s P u r
def getr (R : List (List Int)) (i : Int) : List Int := R.getD i.toNat []

section
variable {N : Nat} {s0 s s' : St} {L : List Item} {x y z : Item} {M P : Nat → Prop} {prog : Nat → Option CFunc} {ρ : Env} {Q : Env → St → Prop}

theorem IsRows.chg {v : Value} {R : List (List Int)} (h : IsRows s P v R) (k : Chg M s s') (hP : ∀ A, P A → ¬ M A) : IsRows s' P v R := by
  obtain ⟨vs, h1, h2⟩ := h
  exact ⟨vs, h1.chg k hP, fun i u r hu hr => (h2 i u r hu hr).chg k hP⟩
theorem IsRows.at {v : Value} {R : List (List Int)} (h : IsRows s0 P v R) (H : Hs N s0 s L) (hP : ∀ A, P A → A < N) : IsRows s P v R := h.chg H.ext fun A hA hn => absurd (hP A hA) (by omega)
theorem IsRows.sl {v : Value} {R : List (List Int)} (h : IsRows s P v R) : ∃ vs, Sl s P 1 v R.length vs := by obtain ⟨vs, h1, _⟩ := h; exact ⟨vs, h1⟩
theorem IsRows.mono {P' : Nat → Prop} {v : Value} {R : List (List Int)} (h : IsRows s P v R) (hP : ∀ A, A < s.nextId → P A → P' A) : IsRows s P' v R := by
  obtain ⟨vs, h1, h2⟩ := h
  exact ⟨vs, h1.mono hP, fun i u r hu hr => (h2 i u r hu hr).mono hP⟩
theorem Rws.rows {v : Value} {vs : List Value} {R : List (List Int)} {F : List Nat} (h : Rws s v vs R F) : IsRows s (fun B => B ∈ F) v R :=
  ⟨vs, (h.lsv.sl (n := R.length) (by omega) (by have := h.len; omega)).mono fun B _ hB => h.own B hB, fun i u r hu hr => (h.row i u r hu hr).mono fun B _ hB => hB.1⟩
theorem Hs.rows (H : Hs N s0 s L) (i : Nat) {v : Value} {vs : List Value} {R : List (List Int)} {F : List Nat} (hi : L[i]? = some (Item.rows v vs R F)) : IsRows s (fun B => B ∈ F) v R := (H.rws i hi).rows
theorem Rws.sl {v : Value} {vs : List Value} {R : List (List Int)} {F : List Nat} (h : Rws s v vs R F) : Sl s (fun B => B ∈ F) 1 v R.length vs :=
  (h.lsv.sl (n := R.length) (by omega) (by have := h.len; omega)).mono fun B _ hB => h.own B hB
theorem Hs.rsl (H : Hs N s0 s L) (i : Nat) {v : Value} {vs : List Value} {R : List (List Int)} {F : List Nat} (hi : L[i]? = some (Item.rows v vs R F)) : Sl s (fun B => B ∈ F) 1 v R.length vs :=
  ((H.rws i hi).lsv.sl (n := R.length) (by omega) (by have := (H.rws i hi).len; omega)).mono fun B _ hB => (H.rws i hi).own B hB
theorem Rws.nil : Rws s (.slice none 0 0) [] [] [] := ⟨Lsv.nil, rfl, fun i u r h => by simp at h, fun B h => by (cases h), fun B h => by (cases h)⟩

section
variable {a b : Opd} {d d1 d2 : Nat} {v : Value} {i : Int} {k : IntKind} {r : List CE}
theorem Step.lenRows {R : List (List Int)} (hx : a.evE ρ = v) (h : IsRows s P v R) : Step ρ s (.lenSl a) (.int .i64 ((R.length : Nat) : Int)) s := by
  obtain ⟨vs, h1, _⟩ := h
  exact Step.lenSl hx h1

theorem Wo.idxR {R : List (List Int)} (hx : a.evE ρ = v) (h : IsRows s P v R) (hy : b.evE ρ = .int k i) (h0 : 0 ≤ i) (hi : i < R.length) (K : ∀ p u, IsInts s P u (getr R i) → Wo prog r (upd (upd ρ d1 p) d2 u) s Q) :
    Wo prog (⟨some d1, .iaddr 1 a b, none⟩ :: ⟨some d2, .load (.t d1), none⟩ :: r) ρ s Q := by
  obtain ⟨vs, h1, h2⟩ := h
  have hl : vs.length = R.length := by have := h1.len; omega
  have hlt : i.toNat < R.length := by omega
  obtain ⟨u, hu⟩ : ∃ u, vs[i.toNat]? = some u := ⟨vs[i.toNat]'(by omega), List.getElem?_eq_getElem (by omega)⟩
  refine Wo.idx hx h1 hy h0 hu fun p => K p u ?_
  refine h2 _ u _ hu ?_
  unfold getr
  rw [List.getD_eq_getElem?_getD, List.getElem?_eq_getElem hlt, Option.getD_some]
end

section
variable {a b : Opd} {d1 d2 hi1 hi2 kk : Nat} {HH : Nat → St → Prop} {v : Value} {i : Int} {k : IntKind} {r : List (CE × Nat)}
theorem Wd.idxR {R : List (List Int)} (hx : a.evE ρ = v) (h : IsRows s P v R) (hy : b.evE ρ = .int k i) (h0 : 0 ≤ i) (hi : i < R.length) (hh : hi2 < kk + 1)
    (K : ∀ p u, IsInts s P u (getr R i) → Wd prog r kk (fun k' s' => (k' ≤ hi2 → s' = s) ∧ HH k' s') (upd (upd ρ d1 p) d2 u) s Q) :
    Wd prog ((⟨some d1, .iaddr 1 a b, none⟩, hi1) :: (⟨some d2, .load (.t d1), none⟩, hi2) :: r) kk HH ρ s Q := by
  obtain ⟨vs, h1, h2⟩ := h
  have hl : vs.length = R.length := by have := h1.len; omega
  have hlt : i.toNat < R.length := by omega
  obtain ⟨u, hu⟩ : ∃ u, vs[i.toNat]? = some u := ⟨vs[i.toNat]'(by omega), List.getElem?_eq_getElem (by omega)⟩
  have hin : IsInts s P u (getr R i) := by
    refine h2 _ u _ hu ?_
    unfold getr
    rw [List.getD_eq_getElem?_getD, List.getElem?_eq_getElem hlt, Option.getD_some]
  exact Wd.idx hx h1 hy h0 hu hin.veq fun p => Wd.weaken (fun k' s' hh => ⟨fun hk => by rw [hh.1 hk]; exact h1, hh.2⟩) (K p u hin)
end

/-! ### made -/

section
variable {d e n : Nat} {a b c : Opd} {v : Value} {cs cs' vs : List Value} {r : List CE}

theorem Wo.boxH (H : Hs N s0 s L) (hx : cellsOfV (a.evE ρ) = cs) (K : ∀ s', Hs N s0 s' (L ++ [Item.own s.nextId 0 cs]) → s'.nextId = s.nextId + 1 → Wo prog r (upd ρ d (ptrV s.nextId 0)) s' Q) : Wo prog (⟨some d, .box e a, none⟩ :: r) ρ s Q :=
  Wo.box hx fun s' h1 h2 h3 => K s' (H.add h1 h2 (fun B hB => by rw [List.mem_singleton.1 hB]; exact Nat.le_refl _)) h3
theorem Wo.allocH (H : Hs N s0 s L) (K : ∀ s', Hs N s0 s' (L ++ [Item.own s.nextId 0 cs]) → s'.nextId = s.nextId + 1 → Wo prog r (upd ρ d (ptrV s.nextId 0)) s' Q) : Wo prog (⟨some d, .alloc e cs, none⟩ :: r) ρ s Q :=
  Wo.alloc fun s' h1 h2 h3 => K s' (H.add h1 h2 (fun B hB => by rw [List.mem_singleton.1 hB]; exact Nat.le_refl _)) h3
theorem Wo.buildSH {z : Nat} {ps : List (Nat × Opd)} (H : Hs N s0 s L) (h : Fill ρ cs (offs z ps) cs') (K : ∀ s', Hs N s0 s' (L ++ [Item.own s.nextId z cs']) → s'.nextId = s.nextId + 1 → Wo prog r (upd ρ d (.slice (some ⟨s.nextId, 0, none⟩) n n)) s' Q) :
    Wo prog (⟨some d, .buildSlice e z n cs ps, none⟩ :: r) ρ s Q :=
  Wo.buildS h fun s' h1 h2 h3 => K s' (H.add h1 h2 (fun B hB => by rw [List.mem_singleton.1 hB]; exact Nat.le_refl _)) h3

theorem zerosF_one (v : Value) : ∀ n, zerosF [v] n = List.replicate n v
  | 0 => rfl
  | n + 1 => by simp only [zerosF, app_eq, zerosF_one v n]; rfl

theorem Step.mkSlice {k k' : IntKind} {l m : Int} {bytes z : Nat} {zero : List Value} (hl : a.evE ρ = .int k l) (hc : b.evE ρ = .int k' m) (h0 : 0 ≤ l ∧ l ≤ m) (hb : m.toNat * bytes ≤ 281474976710656 ∧ m.toNat ≤ 281474976710656) :
    Step ρ s (.mkSlice e bytes z zero a b) (.slice (some ⟨s.nextId, 0, none⟩) l.toNat m.toNat) (s.new (.row e z (zerosF zero m.toNat) none none)).2 := by
  intro t ht
  have h1 : Nat.ble l.toNat m.toNat = true := Nat.ble_eq_true_of_le (by omega)
  have h2 : Nat.ble (m.toNat * bytes) 281474976710656 = true := Nat.ble_eq_true_of_le hb.1
  have h3 : Nat.ble m.toNat 281474976710656 = true := Nat.ble_eq_true_of_le hb.2
  simp only [doOp, ht.ev, hl, hc, intN_of h0.1, intN_of (show 0 ≤ m by omega), h1, h2, h3]
  rw [show s.new (.row e z (zerosF zero m.toNat) none none) = ((s.new (.row e z (zerosF zero m.toNat) none none)).1, (s.new (.row e z (zerosF zero m.toNat) none none)).2) from rfl, id_new]

theorem Wo.mkSliceH {k k' : IntKind} {l m : Int} {bytes z : Nat} {zero : List Value} (H : Hs N s0 s L) (hl : a.evE ρ = .int k l) (hc : b.evE ρ = .int k' m) (h0 : 0 ≤ l ∧ l ≤ m) (hb : m.toNat * bytes ≤ 281474976710656 ∧ m.toNat ≤ 281474976710656) (hz : zerosF zero m.toNat = cs)
    (K : ∀ s', Hs N s0 s' (L ++ [Item.own s.nextId z cs]) → s'.nextId = s.nextId + 1 → Wo prog r (upd ρ d (.slice (some ⟨s.nextId, 0, none⟩) l.toNat m.toNat)) s' Q) : Wo prog (⟨some d, .mkSlice e bytes z zero a b, none⟩ :: r) ρ s Q := by
  subst hz
  exact Wo.op (Step.mkSlice hl hc h0 hb) (K _ (H.add new_chg own_new (fun B hB => by rw [List.mem_singleton.1 hB]; exact Nat.le_refl _)) (next_new _ _))

theorem zeroI (n : Nat) : zerosF [.int .i64 (.ofNat 0)] n = enI (List.replicate n 0) := by rw [zerosF_one]; simp [enI]
theorem zeroB (n : Nat) : zerosF [.bool false] n = enB (List.replicate n false) := by rw [zerosF_one]; simp [enB]
theorem zeroU (n : Nat) : zerosF [.int .u8 (.ofNat 0)] n = enU (List.replicate n 0) := by rw [zerosF_one]; simp [enU]

/-! ### changed -/

theorem Wo.storeH {A o z : Nat} (H : Hs N s0 s L) (i : Nat) (ha : a.evE ρ = ptrV A o) (hi : L[i]? = some (Item.own A z cs)) (hx : cellsOfV (b.evE ρ) = vs) (hn : vs.length = n) (h1 : ones vs = true) (hs : spl cs o vs = some cs')
    (K : ∀ s', Hs N s0 s' (L.set i (Item.own A z cs')) → s'.nextId = s.nextId → Wo prog r ρ s' Q) : Wo prog (⟨none, .store n a b, none⟩ :: r) ρ s Q :=
  Wo.store ha hx hn h1 (H.own i hi) hs fun s' h2 h3 h4 => K s' (H.upd hi h2 (fun B hB => List.mem_singleton.2 hB) h3 (fun B hB => .inl hB)) h4

/-- x[i] = v for a row that is ours. -/
theorem Wo.setH {A m c : Nat} {k : IntKind} {i : Int} {x y : Opd} (H : Hs N s0 s L) (j : Nat) (hx : x.evE ρ = .slice (some ⟨A, 0, none⟩) m c) (hy : y.evE ρ = .int k i) (hj : L[j]? = some (Item.own A 1 cs)) (h0 : 0 ≤ i) (him : i < m) (hml : m ≤ cs.length) (hv : b.evE ρ = v) (h1 : ones [v] = true)
    (K : ∀ p s', Hs N s0 s' (L.set j (Item.own A 1 (cs.set i.toNat v))) → s'.nextId = s.nextId → Wo prog r (upd ρ d p) s' Q) (hbd : ∀ q, b = .t q → q ≠ d) : Wo prog (⟨some d, .iaddr 1 x y, none⟩ :: ⟨none, .store 1 (.t d) b, none⟩ :: r) ρ s Q := by
  refine Wo.op (Step.iaddrO hx hy h0 him) ?_
  have hc : cellsOfV v = [v] := by cases v <;> first | rfl | simp [ones] at h1
  have hb : b.evE (upd ρ d (ptrV A (0 + i.toNat * 1))) = v := by
    cases b with
    | c w => exact hv
    | t q =>
      have := hbd q rfl
      have hf : Nat.beq q d = false := by
        cases hq : Nat.beq q d with
        | false => rfl
        | true => exact absurd (Nat.eq_of_beq_eq_true hq) this
      simp only [Opd.evE, upd, hf]; exact hv
  refine Wo.storeH H j (A := A) (o := 0 + i.toNat * 1) (by simp [Opd.evE, upd]) hj (by rw [hb, hc]) rfl h1 (by rw [spl_one _ (by omega)]) fun s' h2 h3 => ?_
  rw [show 0 + i.toNat * 1 = i.toNat by omega] at h2
  exact K _ s' h2 h3

theorem Lsv.app {bytes k : Nat} {v w : Value} {cells new : List Value} {z : Nat} (hl : Lsv s z v cells) (hw : Sl s P z w k new) (hz : 0 < z) (hk : 0 < k) (h1 : ones new = true)
    (hb : 2 * (cells.length + new.length) * bytes ≤ 281474976710656 ∧ cells.length + new.length ≤ 281474976710656) :
    ∃ v' s', appendF s e z bytes v w = some (v', s') ∧ Lsv s' z v' (cells ++ new) ∧ blks v' = [s.nextId] ∧ Chg (fun B => B ∈ blks v) s s' ∧ s'.nextId = s.nextId + 1 := by
  obtain ⟨A, g1, g2⟩ := hl
  obtain ⟨v', s', e1, e2, e3, e4⟩ := append_ok (e := e) (bytes := bytes) g1 hw hz hk h1 hb
  have hne : cells ++ new ≠ [] := fun h => by
    have h1 := (List.append_eq_nil_iff.1 h).2
    have h2 := hw.len
    rw [h1] at h2
    have := Nat.le_mul_of_pos_right k hz
    simp at h2
    omega
  have hv : blks v' = [s.nextId] := by
    rcases e2 with ⟨_, h⟩ | ⟨n, rfl, _⟩
    · exact absurd h hne
    · rfl
  refine ⟨v', s', e1, ⟨s.nextId, e2, by rw [hv, if_neg hne]⟩, hv, e3.mono fun B _ hB => ?_, e4⟩
  rw [g2, if_neg hB.2]
  exact List.mem_singleton.2 hB.1

/-- append(l, x) for items of one cell: the new list. -/
theorem Wo.app1C {bytes d1 d2 : Nat} {x y : Opd} {w z0 : Value} {cells : List Value} (hx : x.evE ρ = v) (hl : Lsv s 1 v cells) (hy : y.evE ρ = w) (h1 : ones [w] = true) (hxd : ∀ n, x = .t n → n ≠ d1)
    (hb : 2 * (cells.length + 1) * bytes ≤ 281474976710656 ∧ cells.length + 1 ≤ 281474976710656)
    (K : ∀ p v' s', Lsv s' 1 v' (cells ++ [w]) → blks v' = [s.nextId + 1] → Chg (fun B => B ∈ blks v) s s' → s'.nextId = s.nextId + 2 → Wo prog r (upd (upd ρ d1 p) d2 v') s' Q) :
    Wo prog (⟨some d1, .buildSlice e 1 1 [z0] [(0, y)], none⟩ :: ⟨some d2, .append e 1 bytes x (.t d1), none⟩ :: r) ρ s Q := by
  obtain ⟨A, g1, g2⟩ := hl
  refine Wo.app1 hx g1 hy h1 hxd hb fun p v' s' k1 k2 k3 => ?_
  have hv : blks v' = [s.nextId + 1] := by
    rcases k1 with ⟨_, h⟩ | ⟨n, rfl, _⟩
    · simp at h
    · rfl
  exact K p v' s' ⟨s.nextId + 1, k1, by rw [hv, if_neg (by simp)]⟩ hv (k2.mono fun B _ hB => by rw [g2, if_neg hB.2]; exact List.mem_singleton.2 hB.1) k3

theorem Wo.app1H {bytes d1 d2 : Nat} {x y : Opd} {w z0 : Value} {cells : List Value} (H : Hs N s0 s L) (i : Nat) (hx : x.evE ρ = v) (hi : L[i]? = some (Item.lst 1 v cells)) (hy : y.evE ρ = w) (h1 : ones [w] = true) (hxd : ∀ n, x = .t n → n ≠ d1)
    (hb : 2 * (cells.length + 1) * bytes ≤ 281474976710656 ∧ cells.length + 1 ≤ 281474976710656)
    (K : ∀ p v' s', Hs N s0 s' (L.set i (Item.lst 1 v' (cells ++ [w]))) → s'.nextId = s.nextId + 2 → Wo prog r (upd (upd ρ d1 p) d2 v') s' Q) :
    Wo prog (⟨some d1, .buildSlice e 1 1 [z0] [(0, y)], none⟩ :: ⟨some d2, .append e 1 bytes x (.t d1), none⟩ :: r) ρ s Q :=
  Wo.app1C hx (H.lsv i hi) hy h1 hxd hb fun p v' s' k1 k2 k3 k4 => K p v' s' (H.upd hi k3 (fun B hB => hB) k1 (fun B hB => by
    have hB' : B ∈ blks v' := hB
    rw [k2, List.mem_singleton] at hB'
    omega)) k4

theorem Rws.push {v v' u : Value} {R : List (List Int)} {F : List Nat} {vs : List Value} {row : List Int} {B0 : Nat} (h : ∀ (i : Nat) (u : Value) (r : List Int), vs[i]? = some u → R[i]? = some r → IsInts s (fun B => B ∈ F ∧ B ∉ blks v) u r) (hvl : vs.length = R.length) (hl : Lsv s' 1 v' (vs ++ [u])) (hb : blks v' = [B0]) (hB0 : s.nextId ≤ B0 ∧ B0 < s'.nextId)
    (hF : ∀ B, B ∈ F → B < s.nextId) (hrow : IsInts s (fun B => B ∈ blks u) u row) (hu : ∀ B, B ∈ blks u → B < s.nextId ∧ B ∉ blks v) (c : Chg (fun B => B ∈ blks v) s s') : Rws s' v' (vs ++ [u]) (R ++ [row]) (B0 :: blks u ++ F) := by
  have hc1 := c.1
  refine ⟨hl, by simp [hvl], fun i w r hw hr => ?_, fun B hB => ?_, fun B hB => ?_⟩
  · by_cases hi : i < vs.length
    · rw [List.getElem?_append_left hi] at hw
      rw [List.getElem?_append_left (by omega)] at hr
      refine ((h i w r hw hr).chg c (fun A hA hn => hA.2 hn)).mono fun A _ hA => ⟨List.mem_append_right _ hA.1, ?_⟩
      rw [hb, List.mem_singleton]
      have := hF A hA.1
      omega
    · have hi2 := (List.getElem?_eq_some_iff.1 hw).1
      simp only [List.length_append, List.length_singleton] at hi2
      have e : i = vs.length := by omega
      subst e
      rw [List.getElem?_append_right (by omega)] at hw
      rw [List.getElem?_append_right (by omega)] at hr
      simp only [Nat.sub_self, hvl, List.getElem?_cons_zero, Option.some.injEq] at hw hr
      subst hw hr
      refine (hrow.chg c (fun A hA hn => (hu A hA).2 hn)).mono fun A _ hA => ⟨by simp [hA], ?_⟩
      rw [hb, List.mem_singleton]
      have := (hu A hA).1
      omega
  · simp only [List.cons_append, List.mem_cons, List.mem_append] at hB
    rcases hB with rfl | hB | hB
    · exact hB0.2
    · exact Nat.lt_of_lt_of_le (hu B hB).1 hc1
    · exact Nat.lt_of_lt_of_le (hF B hB) hc1
  · rw [hb] at hB
    simp at hB
    simp [hB]

/-- A row that is ours is appended to a list of rows. -/
theorem Wo.appRowH {bytes d1 d2 : Nat} {x y : Opd} {u z0 : Value} {vs : List Value} {R : List (List Int)} {F : List Nat} {row : List Int} (H : Hs N s0 s L) (i j : Nat) (hij : i ≠ j) (hx : x.evE ρ = v) (hi : L[i]? = some (Item.rows v vs R F)) (hrow : IsInts s (fun B => B ∈ blks u) u row) (hy : y.evE ρ = u) {w : Item} (hj : L[j]? = some w) (hw : w.fp = blks u)
    (hxd : ∀ n, x = .t n → n ≠ d1) (hb : 2 * (R.length + 1) * bytes ≤ 281474976710656 ∧ R.length + 1 ≤ 281474976710656)
    (K : ∀ p v' s' F', Hs N s0 s' ((L.set i (Item.rows v' (vs ++ [u]) (R ++ [row]) F')).set j Item.emp) → s'.nextId = s.nextId + 2 → Wo prog r (upd (upd ρ d1 p) d2 v') s' Q) :
    Wo prog (⟨some d1, .buildSlice e 1 1 [z0] [(0, y)], none⟩ :: ⟨some d2, .append e 1 bytes x (.t d1), none⟩ :: r) ρ s Q := by
  have hR := H.rws i hi
  obtain ⟨a1, a2, a3, _, _⟩ := id hR
  refine Wo.app1C hx a1 hy hrow.one hxd (by rw [a2]; exact hb) fun p v' s' k1 k2 k3 k4 => ?_
  have hju : ∀ B, B ∈ blks u → B < s.nextId ∧ B ∉ blks v := fun B hB => by
    rw [← hw] at hB
    exact ⟨w.lt (H.ok j w hj) B hB, fun hn => H.dj j i w _ (fun e => hij e.symm) hj hi B hB (hR.own B hn)⟩
  refine K p v' s' ((s.nextId + 1) :: blks u ++ F) (H.merge hij hi hj k3 (fun B hB => .inl (hR.own B hB)) (Rws.push a3 a2 k1 k2 (by omega) hR.lt hrow hju k3) fun B hB => ?_) k4
  have hB' : B ∈ (s.nextId + 1) :: blks u ++ F := hB
  simp only [List.cons_append, List.mem_cons, List.mem_append] at hB'
  rcases hB' with rfl | h | h
  · exact .inr (.inr (by omega))
  · exact .inr (.inl (by rw [hw]; exact h))
  · exact .inl h
end

/-! ### in regions that draw -/

section
variable {d e n kk hi : Nat} {a b c : Opd} {v : Value} {cs cs' vs : List Value} {r : List (CE × Nat)} {HH : Nat → St → Prop}

theorem Wd.storeH {A o z : Nat} (H : Hs N s0 s L) (i : Nat) (ha : a.evE ρ = ptrV A o) (hi' : L[i]? = some (Item.own A z cs)) (hx : cellsOfV (b.evE ρ) = vs) (hn : vs.length = n) (h1 : ones vs = true) (hs : spl cs o vs = some cs')
    (K : ∀ s', Hs N s0 s' (L.set i (Item.own A z cs')) → s'.nextId = s.nextId → HH (kk + 1) s' ∧ Wd prog r (kk + 1) HH ρ s' Q) : Wd prog ((⟨none, .store n a b, none⟩, hi) :: r) kk HH ρ s Q :=
  Wd.store ha hx hn h1 (H.own i hi') hs fun s' h2 h3 h4 => K s' (H.upd hi' h2 (fun B hB => List.mem_singleton.2 hB) h3 (fun B hB => .inl hB)) h4

theorem Wd.allocH (H : Hs N s0 s L) (hH : ∀ s', Pur s s' → HH kk s') (K : ∀ s', s'.obj s.nextId = some (.row e 0 cs none none) → Pur s s' → Hs N s0 s' (L ++ [Item.own s.nextId 0 cs]) → s'.nextId = s.nextId + 1 → Wd prog r kk (fun k' s2 => (k' ≤ hi → ∃ ob', s2.obj s.nextId = some ob' ∧ objEq (.row e 0 cs none none) ob' = true) ∧ HH k' s2) (upd ρ d (ptrV s.nextId 0)) s' Q) :
    Wd prog ((⟨some d, .alloc e cs, none⟩, hi) :: r) kk HH ρ s Q := by
  have hst : Step ρ s (.alloc e cs) (ptrV s.nextId 0) (s.new (.row e 0 cs none none)).2 := fun t ht => by
    simp only [doOp]
    rw [show s.new (.row e 0 cs none none) = ((s.new (.row e 0 cs none none)).1, (s.new (.row e 0 cs none none)).2) from rfl, id_new]
  have hob : (s.new (.row e 0 cs none none)).2.obj s.nextId = some (.row e 0 cs none none) := by rw [obj_new, if_pos rfl]
  exact Wd.make rfl hst hob (hH _ new_chg) (K _ hob new_chg (H.add new_chg own_new (fun B hB => by rw [List.mem_singleton.1 hB]; exact Nat.le_refl _)) (next_new _ _))

theorem Wd.app1H {bytes d1 d2 hi1 hi2 : Nat} {x y : Opd} {w z0 : Value} {cells : List Value} (H : Hs N s0 s L) (i : Nat) (hx : x.evE ρ = v) (hi : L[i]? = some (Item.lst 1 v cells)) (hy : y.evE ρ = w) (h1 : ones [w] = true) (hxd : ∀ n, x = .t n → n ≠ d1) (hhi : hi1 < kk + 1)
    (hb : 2 * (cells.length + 1) * bytes ≤ 281474976710656 ∧ cells.length + 1 ≤ 281474976710656) (hH : ∀ s', Pur s s' → HH kk s')
    (K : ∀ p v' s', Hs N s0 s' (L.set i (Item.lst 1 v' (cells ++ [w]))) → s'.nextId = s.nextId + 2 → HH (kk + 1) s' ∧ Wd prog r (kk + 1) (fun k' s' => kk + 1 ≤ k' ∧ HH k' s') (upd (upd ρ d1 p) d2 v') s' Q) :
    Wd prog ((⟨some d1, .buildSlice e 1 1 [z0] [(0, y)], none⟩, hi1) :: (⟨some d2, .append e 1 bytes x (.t d1), none⟩, hi2) :: r) kk HH ρ s Q := by
  obtain ⟨A, g1, g2⟩ := H.lsv i hi
  refine Wd.app1 hx g1 hy h1 hxd hhi hb hH fun p v' s' k1 k2 k3 => ?_
  have hv : blks v' = [s.nextId + 1] := by
    rcases k1 with ⟨_, h⟩ | ⟨n, rfl, _⟩
    · simp at h
    · rfl
  refine K p v' s' (H.upd hi (k2.mono (M' := fun B => B ∈ blks v) fun B _ hB => by rw [g2, if_neg hB.2]; exact List.mem_singleton.2 hB.1) (fun B hB => hB) (⟨s.nextId + 1, k1, by rw [hv, if_neg (by simp)]⟩ : Lsv s' 1 v' (cells ++ [w])) fun B hB => ?_) k3
  have hB' : B ∈ blks v' := hB
  rw [hv, List.mem_singleton] at hB'
  omega
end

/-! ### by kinds -/

theorem enI_snoc (xs : List Int) (n : Int) : enI xs ++ [.int .i64 n] = enI (xs ++ [n]) := by simp [enI]
theorem enB_snoc (xs : List Bool) (n : Bool) : enB xs ++ [.bool n] = enB (xs ++ [n]) := by simp [enB]
theorem enS_snoc (xs : List (List UInt8)) (n : List UInt8) : enS xs ++ [.string ⟨⟨n⟩⟩] = enS (xs ++ [n]) := by simp [enS]
theorem enI_set (xs : List Int) (i : Nat) (n : Int) : (enI xs).set i (.int .i64 n) = enI (xs.set i n) := by simp [enI, List.map_set]
theorem enB_set (xs : List Bool) (i : Nat) (n : Bool) : (enB xs).set i (.bool n) = enB (xs.set i n) := by simp [enB, List.map_set]
theorem enU_set (xs : List UInt8) (i : Nat) (n : UInt8) : (enU xs).set i (.int .u8 ((n.toNat : Nat) : Int)) = enU (xs.set i n) := by simp [enU, List.map_set]

section
variable {d d1 d2 e : Nat} {a b c x y : Opd} {v : Value} {r : List CE} {k : IntKind} {i : Int} {z0 : Value} {bytes : Nat}
theorem Wo.setI {A m c : Nat} {xs : List Int} {n : Int} (H : Hs N s0 s L) (j : Nat) (hx : x.evE ρ = .slice (some ⟨A, 0, none⟩) m c) (hy : y.evE ρ = .int k i) (hj : L[j]? = some (Item.own A 1 (enI xs))) (h0 : 0 ≤ i) (him : i < m) (hml : m ≤ xs.length) (hv : b.evE ρ = .int .i64 n)
    (K : ∀ p s', Hs N s0 s' (L.set j (Item.own A 1 (enI (xs.set i.toNat n)))) → s'.nextId = s.nextId → Wo prog r (upd ρ d p) s' Q) (hbd : ∀ q, b = .t q → q ≠ d) : Wo prog (⟨some d, .iaddr 1 x y, none⟩ :: ⟨none, .store 1 (.t d) b, none⟩ :: r) ρ s Q :=
  Wo.setH H j hx hy hj h0 him (by simpa using hml) hv rfl (fun p s' h => K p s' (by rw [enI_set] at h; exact h)) hbd
theorem Wo.setB {A m c : Nat} {xs : List Bool} {n : Bool} (H : Hs N s0 s L) (j : Nat) (hx : x.evE ρ = .slice (some ⟨A, 0, none⟩) m c) (hy : y.evE ρ = .int k i) (hj : L[j]? = some (Item.own A 1 (enB xs))) (h0 : 0 ≤ i) (him : i < m) (hml : m ≤ xs.length) (hv : b.evE ρ = .bool n)
    (K : ∀ p s', Hs N s0 s' (L.set j (Item.own A 1 (enB (xs.set i.toNat n)))) → s'.nextId = s.nextId → Wo prog r (upd ρ d p) s' Q) (hbd : ∀ q, b = .t q → q ≠ d) : Wo prog (⟨some d, .iaddr 1 x y, none⟩ :: ⟨none, .store 1 (.t d) b, none⟩ :: r) ρ s Q :=
  Wo.setH H j hx hy hj h0 him (by simpa using hml) hv rfl (fun p s' h => K p s' (by rw [enB_set] at h; exact h)) hbd

theorem Wo.appI {xs : List Int} {n : Int} (H : Hs N s0 s L) (i : Nat) (hx : x.evE ρ = v) (hi : L[i]? = some (Item.lst 1 v (enI xs))) (hy : y.evE ρ = .int .i64 n) (hxd : ∀ n, x = .t n → n ≠ d1)
    (hb : 2 * (xs.length + 1) * bytes ≤ 281474976710656 ∧ xs.length + 1 ≤ 281474976710656)
    (K : ∀ p v' s', Hs N s0 s' (L.set i (Item.lst 1 v' (enI (xs ++ [n])))) → s'.nextId = s.nextId + 2 → Wo prog r (upd (upd ρ d1 p) d2 v') s' Q) :
    Wo prog (⟨some d1, .buildSlice e 1 1 [z0] [(0, y)], none⟩ :: ⟨some d2, .append e 1 bytes x (.t d1), none⟩ :: r) ρ s Q :=
  Wo.app1H H i hx hi hy rfl hxd (by simpa using hb) fun p v' s' h => K p v' s' (by rw [enI_snoc] at h; exact h)
theorem Wo.appB {xs : List Bool} {n : Bool} (H : Hs N s0 s L) (i : Nat) (hx : x.evE ρ = v) (hi : L[i]? = some (Item.lst 1 v (enB xs))) (hy : y.evE ρ = .bool n) (hxd : ∀ n, x = .t n → n ≠ d1)
    (hb : 2 * (xs.length + 1) * bytes ≤ 281474976710656 ∧ xs.length + 1 ≤ 281474976710656)
    (K : ∀ p v' s', Hs N s0 s' (L.set i (Item.lst 1 v' (enB (xs ++ [n])))) → s'.nextId = s.nextId + 2 → Wo prog r (upd (upd ρ d1 p) d2 v') s' Q) :
    Wo prog (⟨some d1, .buildSlice e 1 1 [z0] [(0, y)], none⟩ :: ⟨some d2, .append e 1 bytes x (.t d1), none⟩ :: r) ρ s Q :=
  Wo.app1H H i hx hi hy rfl hxd (by simpa using hb) fun p v' s' h => K p v' s' (by rw [enB_snoc] at h; exact h)
end
section
variable {d d1 d2 e kk hi1 hi2 : Nat} {x y : Opd} {v : Value} {r : List (CE × Nat)} {z0 : Value} {bytes : Nat} {HH : Nat → St → Prop}
theorem Wd.appI {xs : List Int} {n : Int} (H : Hs N s0 s L) (i : Nat) (hx : x.evE ρ = v) (hi : L[i]? = some (Item.lst 1 v (enI xs))) (hy : y.evE ρ = .int .i64 n) (hxd : ∀ n, x = .t n → n ≠ d1) (hhi : hi1 < kk + 1)
    (hb : 2 * (xs.length + 1) * bytes ≤ 281474976710656 ∧ xs.length + 1 ≤ 281474976710656) (hH : ∀ s', Pur s s' → HH kk s')
    (K : ∀ p v' s', Hs N s0 s' (L.set i (Item.lst 1 v' (enI (xs ++ [n])))) → s'.nextId = s.nextId + 2 → HH (kk + 1) s' ∧ Wd prog r (kk + 1) (fun k' s' => kk + 1 ≤ k' ∧ HH k' s') (upd (upd ρ d1 p) d2 v') s' Q) :
    Wd prog ((⟨some d1, .buildSlice e 1 1 [z0] [(0, y)], none⟩, hi1) :: (⟨some d2, .append e 1 bytes x (.t d1), none⟩, hi2) :: r) kk HH ρ s Q :=
  Wd.app1H H i hx hi hy rfl hxd hhi (by simpa using hb) hH fun p v' s' h => K p v' s' (by rw [enI_snoc] at h; exact h)
theorem Wd.appB {xs : List Bool} {n : Bool} (H : Hs N s0 s L) (i : Nat) (hx : x.evE ρ = v) (hi : L[i]? = some (Item.lst 1 v (enB xs))) (hy : y.evE ρ = .bool n) (hxd : ∀ n, x = .t n → n ≠ d1) (hhi : hi1 < kk + 1)
    (hb : 2 * (xs.length + 1) * bytes ≤ 281474976710656 ∧ xs.length + 1 ≤ 281474976710656) (hH : ∀ s', Pur s s' → HH kk s')
    (K : ∀ p v' s', Hs N s0 s' (L.set i (Item.lst 1 v' (enB (xs ++ [n])))) → s'.nextId = s.nextId + 2 → HH (kk + 1) s' ∧ Wd prog r (kk + 1) (fun k' s' => kk + 1 ≤ k' ∧ HH k' s') (upd (upd ρ d1 p) d2 v') s' Q) :
    Wd prog ((⟨some d1, .buildSlice e 1 1 [z0] [(0, y)], none⟩, hi1) :: (⟨some d2, .append e 1 bytes x (.t d1), none⟩, hi2) :: r) kk HH ρ s Q :=
  Wd.app1H H i hx hi hy rfl hxd hhi (by simpa using hb) hH fun p v' s' h => K p v' s' (by rw [enB_snoc] at h; exact h)
end

/-! ### rows of an argument -/
section
variable {a b : Opd} {d1 d2 : Nat} {v : Value} {i : Int} {k : IntKind} {r : List CE}
theorem Wo.idxR0 {R : List (List Int)} (H : Hs N s0 s L) (hx : a.evE ρ = v) (h : IsRows s0 P v R) (hP : ∀ A, P A → A < N) (hy : b.evE ρ = .int k i) (h0 : 0 ≤ i) (hi : i < R.length) (K : ∀ p u, IsInts s0 P u (getr R i) → Wo prog r (upd (upd ρ d1 p) d2 u) s Q) :
    Wo prog (⟨some d1, .iaddr 1 a b, none⟩ :: ⟨some d2, .load (.t d1), none⟩ :: r) ρ s Q := by
  obtain ⟨vs, h1, h2⟩ := h
  have hl : vs.length = R.length := by have := h1.len; omega
  have hlt : i.toNat < R.length := by omega
  obtain ⟨u, hu⟩ : ∃ u, vs[i.toNat]? = some u := ⟨vs[i.toNat]'(by omega), List.getElem?_eq_getElem (by omega)⟩
  refine Wo.idx hx (h1.at H hP) hy h0 hu fun p => K p u ?_
  refine h2 _ u _ hu ?_
  unfold getr
  rw [List.getD_eq_getElem?_getD, List.getElem?_eq_getElem hlt, Option.getD_some]
end
section
variable {a b : Opd} {d1 d2 hi1 hi2 kk : Nat} {HH : Nat → St → Prop} {v : Value} {i : Int} {k : IntKind} {r : List (CE × Nat)}
theorem Wd.idxR0 {R : List (List Int)} (H : Hs N s0 s L) (hx : a.evE ρ = v) (h : IsRows s0 P v R) (hP : ∀ A, P A → A < N) (hy : b.evE ρ = .int k i) (h0 : 0 ≤ i) (hi : i < R.length)
    (K : ∀ p u, IsInts s0 P u (getr R i) → Wd prog r kk (fun k' s' => (k' ≤ hi2 → Ext N s0 s') ∧ HH k' s') (upd (upd ρ d1 p) d2 u) s Q) :
    Wd prog ((⟨some d1, .iaddr 1 a b, none⟩, hi1) :: (⟨some d2, .load (.t d1), none⟩, hi2) :: r) kk HH ρ s Q := by
  obtain ⟨vs, h1, h2⟩ := h
  have hl : vs.length = R.length := by have := h1.len; omega
  have hlt : i.toNat < R.length := by omega
  obtain ⟨u, hu⟩ : ∃ u, vs[i.toNat]? = some u := ⟨vs[i.toNat]'(by omega), List.getElem?_eq_getElem (by omega)⟩
  have hin : IsInts s0 P u (getr R i) := by
    refine h2 _ u _ hu ?_
    unfold getr
    rw [List.getD_eq_getElem?_getD, List.getElem?_eq_getElem hlt, Option.getD_some]
  exact Wd.idx hx (h1.at H hP) hy h0 hu hin.veq fun p => Wd.weaken (fun k' s' hh => ⟨fun hk => h1.chg (hh.1 hk) fun A hA hn => absurd (hP A hA) (by omega), hh.2⟩) (K p u hin)
end

/-! ### rows of ours, read -/
section
variable {a b : Opd} {d1 d2 : Nat} {v : Value} {q : Int} {k : IntKind} {r : List CE} {vs : List Value} {R : List (List Int)} {F : List Nat}
theorem Rws.get (h : Rws s v vs R F) (h0 : 0 ≤ q) (hq : q < R.length) : ∃ u, vs[q.toNat]? = some u ∧ ∀ {s' : St}, Rws s' v vs R F → IsInts s' (fun B => B ∈ F) u (getr R q) := by
  have hl := h.len
  have hlt : q.toNat < R.length := by omega
  refine ⟨vs[q.toNat]'(by omega), List.getElem?_eq_getElem (by omega), fun h' => (h'.row q.toNat _ _ (List.getElem?_eq_getElem (by omega)) ?_).mono fun B _ hB => hB.1⟩
  unfold getr
  rw [List.getD_eq_getElem?_getD, List.getElem?_eq_getElem hlt, Option.getD_some]
theorem Wo.idxRH (H : Hs N s0 s L) (i : Nat) (hx : a.evE ρ = v) (hi : L[i]? = some (Item.rows v vs R F)) (hy : b.evE ρ = .int k q) (h0 : 0 ≤ q) (hq : q < R.length)
    (K : ∀ p u, (∀ {s' : St} {L' : List Item}, Hs N s0 s' L' → L'[i]? = some (Item.rows v vs R F) → IsInts s' (fun B => B ∈ F) u (getr R q)) → Wo prog r (upd (upd ρ d1 p) d2 u) s Q) :
    Wo prog (⟨some d1, .iaddr 1 a b, none⟩ :: ⟨some d2, .load (.t d1), none⟩ :: r) ρ s Q := by
  obtain ⟨u, hu, hr⟩ := (H.rws i hi).get h0 hq
  exact Wo.idx hx (H.rsl i hi) hy h0 hu fun p => K p u fun H' hi' => hr (H'.rws i hi')
end
section
variable {a b : Opd} {d1 d2 hi1 hi2 kk : Nat} {HH : Nat → St → Prop} {v : Value} {q : Int} {k : IntKind} {r : List (CE × Nat)} {vs : List Value} {R : List (List Int)} {F : List Nat}
theorem Wd.idxRH (H : Hs N s0 s L) (i : Nat) (hx : a.evE ρ = v) (hi : L[i]? = some (Item.rows v vs R F)) (hy : b.evE ρ = .int k q) (h0 : 0 ≤ q) (hq : q < R.length)
    (K : ∀ p u, (∀ {s' : St} {L' : List Item}, Hs N s0 s' L' → L'[i]? = some (Item.rows v vs R F) → IsInts s' (fun B => B ∈ F) u (getr R q)) → Wd prog r kk (fun k' s' => (k' ≤ hi2 → Rws s' v vs R F) ∧ HH k' s') (upd (upd ρ d1 p) d2 u) s Q) :
    Wd prog ((⟨some d1, .iaddr 1 a b, none⟩, hi1) :: (⟨some d2, .load (.t d1), none⟩, hi2) :: r) kk HH ρ s Q := by
  obtain ⟨u, hu, hr⟩ := (H.rws i hi).get h0 hq
  exact Wd.idx hx (H.rsl i hi) hy h0 hu (hr (H.rws i hi)).veq fun p => Wd.weaken (fun k' s' hh => ⟨fun hk => (hh.1 hk).sl, hh.2⟩) (K p u fun H' hi' => hr (H'.rws i hi'))
end

/-! ### what a call gives back -/

/-- Nothing of what was there has changed; the pieces are new. -/
def New (s s' : St) (ys : List Item) : Prop := Pur s s' ∧ (∀ (i : Nat) (y : Item), ys[i]? = some y → y.ok s' ∧ ∀ B, B ∈ y.fp → s.nextId ≤ B) ∧ ∀ (i j : Nat) (x y : Item), i ≠ j → ys[i]? = some x → ys[j]? = some y → ∀ B, B ∈ x.fp → B ∉ y.fp

theorem New.pur {ys : List Item} (h : New s s' ys) : Pur s s' := h.1

theorem Hs.adds {ys : List Item} (H : Hs N s0 s L) (h : New s s' ys) : Hs N s0 s' (L ++ ys) := by
  obtain ⟨c, h1, h2⟩ := h
  have H' := H.pur c
  have get : ∀ (j : Nat) (w : Item), (L ++ ys)[j]? = some w → (j < L.length ∧ L[j]? = some w) ∨ (L.length ≤ j ∧ ys[j - L.length]? = some w) := fun j w h => by
    rw [List.getElem?_append] at h
    split at h
    · rename_i hj; exact .inl ⟨hj, h⟩
    · rename_i hj; exact .inr ⟨by omega, h⟩
  have hd : ∀ (j k : Nat) (w y : Item), L[j]? = some w → ys[k]? = some y → ∀ B, B ∈ y.fp → B ∉ w.fp := fun j k w y hw hy B hB hB' => absurd (w.lt (H.ok j w hw) B hB') (by have := (h1 k y hy).2 B hB; omega)
  refine ⟨H'.ext, H.base, fun j w hw => ?_, fun j w hw B hB => ?_, fun j k w u hjk hw hu B hB => ?_⟩
  · rcases get j w hw with ⟨_, hw⟩ | ⟨_, hw⟩
    · exact H'.ok j w hw
    · exact (h1 _ w hw).1
  · rcases get j w hw with ⟨_, hw⟩ | ⟨_, hw⟩
    · exact H.ge j w hw B hB
    · exact Nat.le_trans H.base (Nat.le_trans H.le ((h1 _ w hw).2 B hB))
  · rcases get j w hw with ⟨hj, hw2⟩ | ⟨hj, hw2⟩
    · rcases get k u hu with ⟨hk, hu2⟩ | ⟨hk, hu2⟩
      · exact H.dj j k w u hjk hw2 hu2 B hB
      · exact fun hB' => hd j _ w u hw2 hu2 B hB' hB
    · rcases get k u hu with ⟨hk, hu2⟩ | ⟨hk, hu2⟩
      · exact hd k _ u w hu2 hw2 B hB
      · exact h2 _ _ w u (by omega) hw2 hu2 B hB

theorem Hs.nil_new (H : Hs s.nextId s s' L) : New s s' [] := ⟨Ext.toPur H.ext, fun i y h => by simp at h, fun i j x y _ h => by simp at h⟩
theorem Hs.topur (H : Hs s.nextId s s' L) : Pur s s' := Ext.toPur H.ext
theorem Hs.new1 (H : Hs s.nextId s s' L) (i : Nat) (hi : L[i]? = some x) : New s s' [x] :=
  ⟨Ext.toPur H.ext, fun j y h => by
    cases j with
    | zero => simp at h; subst h; exact ⟨H.ok i x hi, H.ge i x hi⟩
    | succ j => simp at h, fun j k u w hjk hu hw => by
    cases j with
    | succ j => simp at hu
    | zero =>
      cases k with
      | zero => exact absurd rfl hjk
      | succ k => simp at hw⟩
theorem Hs.new2 (H : Hs s.nextId s s' L) (i j : Nat) (hij : i ≠ j) (hi : L[i]? = some x) (hj : L[j]? = some y) : New s s' [x, y] :=
  ⟨Ext.toPur H.ext, fun m w h => by
    match m, h with
    | 0, h => simp at h; subst h; exact ⟨H.ok i x hi, H.ge i x hi⟩
    | 1, h => simp at h; subst h; exact ⟨H.ok j y hj, H.ge j y hj⟩
    | m + 2, h => simp at h, fun m k u w hmk hu hw => by
    match m, k, hu, hw with
    | 0, 0, _, _ => exact absurd rfl hmk
    | 1, 1, _, _ => exact absurd rfl hmk
    | 0, 1, hu, hw => simp at hu hw; subst hu hw; exact H.dj i j x y hij hi hj
    | 1, 0, hu, hw => simp at hu hw; subst hu hw; exact H.dj j i y x (fun e => hij e.symm) hj hi
    | m + 2, _, hu, _ => simp at hu
    | 0, k + 2, _, hw => simp at hw
    | 1, k + 2, _, hw => simp at hw⟩

theorem Hs.take (H : Hs N s0 s L) (n : Nat) : Hs N s0 s (L.take n) := by
  have get : ∀ (j : Nat) (w : Item), (L.take n)[j]? = some w → L[j]? = some w := fun j w h => by
    rw [List.getElem?_take] at h
    split at h
    · exact h
    · cases h
  exact ⟨H.ext, H.base, fun j w hw => H.ok j w (get j w hw), fun j w hw => H.ge j w (get j w hw), fun j k w u hjk hw hu => H.dj j k w u hjk (get j w hw) (get k u hu)⟩

theorem ones_cons {v : Value} {r : List Value} (h : ones [v] = true) (hr : ones r = true) : ones (v :: r) = true := by
  cases v <;> simp_all [ones]
theorem Sl.cellE {z n : Nat} {v x : Value} {cells : List Value} (h : Sl s P z v n cells) (e : x = v) : cellsOfV x = [v] := by subst e; exact h.cell
theorem IsRows.cellE {v x : Value} {R : List (List Int)} (h : IsRows s P v R) (e : x = v) : cellsOfV x = [v] := by
  subst e; obtain ⟨vs, h1, _⟩ := h; exact h1.cell
theorem Hs.brow (H : Hs N s0 s L) (i : Nat) {A n : Nat} {xs : List Bool} (hi : L[i]? = some (Item.own A 1 (enB xs))) (hn : n = xs.length) : IsBools s (fun B => B ∈ blks (.slice (some ⟨A, 0, none⟩) n n)) (.slice (some ⟨A, 0, none⟩) n n) xs := by
  subst hn
  exact (Sl.of_own (P := fun B => B = A) (H.own i hi) rfl (by simp)).mono fun B _ hB => List.mem_singleton.2 hB
theorem IsRows.cell {v : Value} {R : List (List Int)} (h : IsRows s P v R) : cellsOfV v = [v] := by
  obtain ⟨vs, h1, _⟩ := h; exact h1.cell
theorem IsRows.veq {v : Value} {R : List (List Int)} (h : IsRows s P v R) : veq v v = true := by
  obtain ⟨vs, h1, _⟩ := h; exact h1.veq
theorem IsRows.one {v : Value} {R : List (List Int)} (h : IsRows s P v R) : ones [v] = true := by
  obtain ⟨vs, h1, _⟩ := h; exact h1.one
theorem Hs.orow (H : Hs N s0 s L) (i : Nat) {A n : Nat} {xs : List Int} (hi : L[i]? = some (Item.own A 1 (enI xs))) (hn : n = xs.length) : IsInts s (fun B => B ∈ blks (.slice (some ⟨A, 0, none⟩) n n)) (.slice (some ⟨A, 0, none⟩) n n) xs := by
  subst hn
  exact (Sl.of_own (P := fun B => B = A) (H.own i hi) rfl (by simp)).mono fun B _ hB => List.mem_singleton.2 hB
/-- A row that is ours becomes a list that may grow. -/
theorem Hs.tolst (H : Hs N s0 s L) (i : Nat) {A n : Nat} {cs : List Value} (hi : L[i]? = some (Item.own A 1 cs)) (hn : n = cs.length) (hne : cs ≠ []) : Hs N s0 s (L.set i (Item.lst 1 (.slice (some ⟨A, 0, none⟩) n n) cs)) := by
  subst hn
  refine H.as i hi (y := Item.lst 1 (.slice (some ⟨A, 0, none⟩) cs.length cs.length) cs) ⟨A, .inr ⟨_, rfl, by simp, H.own i hi, hne⟩, by rw [if_neg hne]; rfl⟩ (fun B hB => hB)
/-- A list of ours that is empty. -/
theorem Hs.addNil (H : Hs N s0 s L) (z : Nat) : Hs N s0 s (L ++ [Item.lst z (.slice none 0 0) []]) := H.add (Chg.refl _) Lsv.nil (fun B hB => by cases hB)
theorem Hs.addRows (H : Hs N s0 s L) : Hs N s0 s (L ++ [Item.rows (.slice none 0 0) [] [] []]) := H.add (Chg.refl _) Rws.nil (fun B hB => by cases hB)
end
end Go.EvW
end

section
namespace Go.Aut

section
variable {α β : Type} [DecidableEq α] [DecidableEq β]

def visit (ord : List α) (q : α) : List α := if q ∈ ord then ord else ord ++ [q]

def scan (d : α → Nat → α) (p : α) : Nat → List α → List α
  | 0, ord => ord
  | k + 1, ord => visit (scan d p k ord) (d p k)

/-- Breadth-first search, so many rounds. -/
def bfsGo (d : α → Nat → α) (k : Nat) : Nat → Nat → List α → Option (List α)
  | 0, _, _ => none
  | F + 1, i, ord => match ord[i]? with
    | none => some ord
    | some p => bfsGo d k F (i + 1) (scan d p k ord)

def Bfs (d : α → Nat → α) (k : Nat) (s : α) (ord : List α) : Prop := ∃ F, bfsGo d k F 0 [s] = some ord

theorem bfsGo_more {d : α → Nat → α} {k : Nat} : ∀ {F i : Nat} {ord r : List α}, bfsGo d k F i ord = some r → ∀ G, F ≤ G → bfsGo d k G i ord = some r
  | 0, _, _, _, h, _, _ => by cases h
  | F + 1, i, ord, r, h, G, hG => by
    obtain ⟨G, rfl⟩ : ∃ m, G = m + 1 := ⟨G - 1, by omega⟩
    simp only [bfsGo] at h ⊢
    split
    · rename_i hn; rw [hn] at h; exact h
    · rename_i p hp; rw [hp] at h; exact bfsGo_more h G (by omega)

theorem Bfs.det {d : α → Nat → α} {k : Nat} {s : α} {o o' : List α} (h : Bfs d k s o) (h' : Bfs d k s o') : o = o' := by
  obtain ⟨F, h⟩ := h
  obtain ⟨G, h'⟩ := h'
  have a := bfsGo_more h (max F G) (Nat.le_max_left ..)
  have b := bfsGo_more h' (max F G) (Nat.le_max_right ..)
  rw [a] at b
  exact Option.some.inj b

theorem mem_visit {ord : List α} {q x : α} : x ∈ visit ord q ↔ x ∈ ord ∨ x = q := by
  unfold visit
  split
  · rename_i h
    constructor
    · exact .inl
    · rintro (h' | rfl)
      · exact h'
      · exact h
  · simp

theorem visit_prefix (ord : List α) (q : α) : ∃ t, visit ord q = ord ++ t := by
  unfold visit
  split
  · exact ⟨[], by simp⟩
  · exact ⟨[q], rfl⟩
theorem scan_prefix (d : α → Nat → α) (p : α) : ∀ (k : Nat) (ord : List α), ∃ t, scan d p k ord = ord ++ t
  | 0, ord => ⟨[], by simp [scan]⟩
  | k + 1, ord => by
    obtain ⟨t, ht⟩ := scan_prefix d p k ord
    obtain ⟨u, hu⟩ := visit_prefix (scan d p k ord) (d p k)
    exact ⟨t ++ u, by show visit (scan d p k ord) (d p k) = _; rw [hu, ht, List.append_assoc]⟩
theorem mem_scan {d : α → Nat → α} {p x : α} : ∀ {k : Nat} {ord : List α}, x ∈ scan d p k ord ↔ x ∈ ord ∨ ∃ a, a < k ∧ x = d p a
  | 0, ord => by simp [scan]
  | k + 1, ord => by
    simp only [scan, mem_visit, mem_scan (k := k)]
    constructor
    · rintro ((h | ⟨a, h1, h2⟩) | h)
      · exact .inl h
      · exact .inr ⟨a, by omega, h2⟩
      · exact .inr ⟨k, by omega, h⟩
    · rintro (h | ⟨a, h1, h2⟩)
      · exact .inl (.inl h)
      · by_cases e : a = k
        · subst e; exact .inr h2
        · exact .inl (.inr ⟨a, by omega, h2⟩)
theorem visit_nodup {ord : List α} {q : α} (h : ord.Nodup) : (visit ord q).Nodup := by
  unfold visit
  split
  · exact h
  · rename_i hq
    rw [List.nodup_append]
    refine ⟨h, by simp, fun a ha b hb => ?_⟩
    simp at hb; subst hb
    exact fun e => hq (e ▸ ha)
theorem scan_nodup {d : α → Nat → α} {p : α} : ∀ {k : Nat} {ord : List α}, ord.Nodup → (scan d p k ord).Nodup
  | 0, _, h => h
  | k + 1, _, h => visit_nodup (scan_nodup (k := k) h)

/-- What is so at the end of a search. -/
theorem bfsGo_inv {d : α → Nat → α} {k : Nat} (I : Nat → List α → Prop) (step : ∀ i ord p, I i ord → ord[i]? = some p → I (i + 1) (scan d p k ord)) :
    ∀ {F i : Nat} {ord r : List α}, I i ord → bfsGo d k F i ord = some r → ∃ j, I j r ∧ r.length ≤ j
  | 0, _, _, _, _, h => by cases h
  | F + 1, i, ord, r, hI, h => by
    simp only [bfsGo] at h
    split at h
    · rename_i hn
      cases h
      exact ⟨i, hI, by simpa using hn⟩
    · rename_i p hp
      exact bfsGo_inv I step (step i ord p hI hp) h

theorem Bfs.inv {d : α → Nat → α} {k : Nat} {s : α} {r : List α} (h : Bfs d k s r) (P : α → Prop) (hs : P s) (hP : ∀ p a, a < k → P p → P (d p a)) : (∀ x ∈ r, P x) ∧ r.Nodup ∧ (∃ t, r = s :: t) ∧ ∀ p ∈ r, ∀ a, a < k → d p a ∈ r := by
  obtain ⟨F, h⟩ := h
  obtain ⟨j, ⟨h1, h2, h3, h4⟩, h5⟩ := bfsGo_inv (fun i ord => (∀ x ∈ ord, P x) ∧ ord.Nodup ∧ (∃ t, ord = s :: t) ∧ ∀ m p, m < i → ord[m]? = some p → ∀ a, a < k → d p a ∈ ord)
    (fun i ord p hI hp => by
      obtain ⟨a1, a2, ⟨t, a3⟩, a4⟩ := hI
      refine ⟨fun x hx => ?_, scan_nodup a2, ?_, fun m q hm hq a ha => ?_⟩
      · rcases mem_scan.1 hx with hx | ⟨a, ha, rfl⟩
        · exact a1 x hx
        · exact hP p a ha (a1 p (List.mem_of_getElem? hp))
      · obtain ⟨u, hu⟩ := scan_prefix d p k ord
        exact ⟨t ++ u, by rw [hu, a3]; rfl⟩
      · obtain ⟨u, hu⟩ := scan_prefix d p k ord
        have hi : i < ord.length := (List.getElem?_eq_some_iff.1 hp).1
        rw [hu, List.getElem?_append_left (by omega)] at hq
        refine mem_scan.2 ?_
        by_cases e : m = i
        · subst e; rw [hp] at hq; cases hq; exact .inr ⟨a, ha, rfl⟩
        · exact .inl (a4 m q (by omega) hq a ha)) (i := 0) ⟨by simpa using hs, by simp, ⟨[], rfl⟩, fun m p hm => by omega⟩ h
  refine ⟨h1, h2, h3, fun p hp a ha => ?_⟩
  obtain ⟨m, hm, rfl⟩ := List.getElem_of_mem hp
  exact h4 m _ (by omega) (List.getElem?_eq_getElem hm) a ha

/-- The table of an automaton by an order of its states. -/
def tab (d : α → Nat → α) (f : α → Bool) (k : Nat) (ord : List α) : List Bool × List (List Nat) := (ord.map f, ord.map fun p => (List.range k).map fun a => ord.idxOf (d p a))

section
variable {d : α → Nat → α} {d' : β → Nat → β} {k : Nat} {g : α → β} {P : α → Prop}

theorem visit_map (hg : ∀ x y, P x → P y → g x = g y → x = y) {ord : List α} {q : α} (ho : ∀ x ∈ ord, P x) (hq : P q) : visit (ord.map g) (g q) = (visit ord q).map g := by
  unfold visit
  have : g q ∈ ord.map g ↔ q ∈ ord := by
    rw [List.mem_map]
    exact ⟨fun ⟨x, hx, e⟩ => hg x q (ho x hx) hq e ▸ hx, fun h => ⟨q, h, rfl⟩⟩
  by_cases h : q ∈ ord
  · rw [if_pos h, if_pos (this.2 h)]
  · rw [if_neg h, if_neg (fun h' => h (this.1 h'))]; simp

theorem scan_map (hg : ∀ x y, P x → P y → g x = g y → x = y) (hd : ∀ x a, a < k → P x → g (d x a) = d' (g x) a) (hP : ∀ x a, a < k → P x → P (d x a)) {p : α} (hp : P p) :
    ∀ {m : Nat} {ord : List α}, m ≤ k → (∀ x ∈ ord, P x) → scan d' (g p) m (ord.map g) = (scan d p m ord).map g
  | 0, _, _, _ => rfl
  | m + 1, ord, hm, ho => by
    simp only [scan]
    rw [scan_map hg hd hP hp (by omega) ho, ← hd p m (by omega) hp]
    refine visit_map hg (fun x hx => ?_) (hP p m (by omega) hp)
    rcases mem_scan.1 hx with hx | ⟨a, ha, rfl⟩
    · exact ho x hx
    · exact hP p a (by omega) hp

theorem bfsGo_map (hg : ∀ x y, P x → P y → g x = g y → x = y) (hd : ∀ x a, a < k → P x → g (d x a) = d' (g x) a) (hP : ∀ x a, a < k → P x → P (d x a)) :
    ∀ {F i : Nat} {ord : List α}, (∀ x ∈ ord, P x) → bfsGo d' k F i (ord.map g) = (bfsGo d k F i ord).map (List.map g)
  | 0, _, _, _ => rfl
  | F + 1, i, ord, ho => by
    simp only [bfsGo, List.getElem?_map]
    cases hi : ord[i]? with
    | none => rfl
    | some p =>
      have hp := ho p (List.mem_of_getElem? hi)
      simp only [Option.map_some]
      rw [scan_map hg hd hP hp (Nat.le_refl k) ho]
      refine bfsGo_map hg hd hP fun x hx => ?_
      rcases mem_scan.1 hx with hx | ⟨a, ha, rfl⟩
      · exact ho x hx
      · exact hP p a ha hp

theorem idxOf_map (hg : ∀ x y, P x → P y → g x = g y → x = y) : ∀ {ord : List α} {q : α}, (∀ x ∈ ord, P x) → P q → (ord.map g).idxOf (g q) = ord.idxOf q
  | [], _, _, _ => rfl
  | x :: ord, q, ho, hq => by
    simp only [List.map_cons, List.idxOf_cons]
    have e : (g x == g q) = (x == q) := by
      rw [Bool.eq_iff_iff, beq_iff_eq, beq_iff_eq]
      exact ⟨hg x q (ho x (List.mem_cons_self ..)) hq, fun h => h ▸ rfl⟩
    rw [e, idxOf_map hg (fun y hy => ho y (List.mem_cons_of_mem _ hy)) hq]

theorem tab_map {f : α → Bool} {f' : β → Bool} (hg : ∀ x y, P x → P y → g x = g y → x = y) (hd : ∀ x a, a < k → P x → g (d x a) = d' (g x) a) (hP : ∀ x a, a < k → P x → P (d x a)) (hf : ∀ x, P x → f' (g x) = f x)
    {ord : List α} (ho : ∀ x ∈ ord, P x) : tab d' f' k (ord.map g) = tab d f k ord := by
  unfold tab
  simp only [List.map_map, Prod.mk.injEq]
  refine ⟨List.map_congr_left fun x hx => hf x (ho x hx), List.map_congr_left fun p hp => ?_⟩
  simp only [Function.comp]
  refine List.map_congr_left fun a ha => ?_
  have ha' := List.mem_range.1 ha
  rw [← hd p a ha' (ho p hp), idxOf_map hg ho (hP p a ha' (ho p hp))]
end
end

/-! ### automata over numbers -/

structure FA where
  n : Nat
  s : Nat
  f : Nat → Bool
  d : Nat → Nat → Nat

def FA.Ok (M : FA) (k : Nat) : Prop := M.s < M.n ∧ ∀ q a, q < M.n → a < k → M.d q a < M.n

def Wd (k : Nat) (w : List Nat) : Prop := ∀ a ∈ w, a < k

def FA.run (M : FA) (q : Nat) (w : List Nat) : Nat := w.foldl M.d q

/-- The same words lead to acceptance. -/
def Same (k : Nat) (M : FA) (p : Nat) (N : FA) (q : Nat) : Prop := ∀ w, Wd k w → M.f (M.run p w) = N.f (N.run q w)

theorem Same.symm {k : Nat} {M N : FA} {p q : Nat} (h : Same k M p N q) : Same k N q M p := fun w hw => (h w hw).symm
theorem Same.trans {k : Nat} {M N L : FA} {p q r : Nat} (h : Same k M p N q) (h' : Same k N q L r) : Same k M p L r := fun w hw => (h w hw).trans (h' w hw)
theorem Same.rfl' {k : Nat} {M : FA} {p : Nat} : Same k M p M p := fun _ _ => rfl
theorem Same.step {k : Nat} {M N : FA} {p q a : Nat} (h : Same k M p N q) (ha : a < k) : Same k M (M.d p a) N (N.d q a) := fun w hw => h (a :: w) (fun x hx => by rcases List.mem_cons.1 hx with rfl | hx; exact ha; exact hw x hx)
theorem Same.fin {k : Nat} {M N : FA} {p q : Nat} (h : Same k M p N q) : M.f p = N.f q := h [] (fun _ h => by cases h)

theorem FA.run_lt {M : FA} {k : Nat} (hM : M.Ok k) {q : Nat} (hq : q < M.n) : ∀ {w : List Nat}, Wd k w → M.run q w < M.n := by
  intro w
  induction w generalizing q with
  | nil => intro _; exact hq
  | cons a w ih => intro hw; exact ih (hM.2 q a hq (hw a (List.mem_cons_self ..))) (fun x hx => hw x (List.mem_cons_of_mem _ hx))

/-- A relation that is kept and tells acceptance. -/
theorem same_of_bisim {k : Nat} {M N : FA} (R : Nat → Nat → Prop) (hf : ∀ p q, R p q → M.f p = N.f q) (hd : ∀ p q a, a < k → R p q → R (M.d p a) (N.d q a)) {p q : Nat} (h : R p q) : Same k M p N q := by
  intro w
  induction w generalizing p q with
  | nil => intro _; exact hf p q h
  | cons a w ih => intro hw; exact ih (hd p q a (hw a (List.mem_cons_self ..)) h) (fun x hx => hw x (List.mem_cons_of_mem _ hx))

def FA.Reduced (M : FA) (k : Nat) : Prop := ∀ p q, p < M.n → q < M.n → Same k M p M q → p = q

/-- The table of the states that are reached, in breadth-first order. -/
def FA.Tab (M : FA) (k : Nat) (t : List Bool × List (List Nat)) : Prop := ∃ ord, Bfs M.d k M.s ord ∧ t = tab M.d M.f k ord

/-- Reduced automata with one language have one table. -/
theorem tab_unique {k : Nat} {M N : FA} (hM : M.Ok k) (hN : N.Ok k) (rM : M.Reduced k) (rN : N.Reduced k) (h : Same k M M.s N N.s) {t u : List Bool × List (List Nat)} (ht : M.Tab k t) (hu : N.Tab k u) : t = u := by
  obtain ⟨o, ho, rfl⟩ := ht
  obtain ⟨o', ho', rfl⟩ := hu
  let dx : Nat × Nat → Nat → Nat × Nat := fun x a => (M.d x.1 a, N.d x.2 a)
  let P : Nat × Nat → Prop := fun x => x.1 < M.n ∧ x.2 < N.n ∧ Same k M x.1 N x.2
  have hP : ∀ x a, a < k → P x → P (dx x a) := fun x a ha hx => ⟨hM.2 _ _ hx.1 ha, hN.2 _ _ hx.2.1 ha, hx.2.2.step ha⟩
  have g1 : ∀ x y : Nat × Nat, P x → P y → x.1 = y.1 → x = y := fun x y hx hy e => by
    have : x.2 = y.2 := rN _ _ hx.2.1 hy.2.1 (hx.2.2.symm.trans (by rw [e]; exact hy.2.2))
    exact Prod.ext e this
  have g2 : ∀ x y : Nat × Nat, P x → P y → x.2 = y.2 → x = y := fun x y hx hy e => by
    have : x.1 = y.1 := rM _ _ hx.1 hy.1 (hx.2.2.trans (by rw [e]; exact hy.2.2.symm))
    exact Prod.ext this e
  have hs : ∀ x ∈ [(M.s, N.s)], P x := by
    intro x hx
    rw [List.mem_singleton] at hx
    subst hx
    exact ⟨hM.1, hN.1, h⟩
  obtain ⟨F, hF⟩ := ho
  have e1 := bfsGo_map (d := dx) (d' := M.d) (k := k) (g := Prod.fst) (P := P) g1 (fun x a _ _ => rfl) hP (F := F) (i := 0) hs
  simp only [List.map_cons, List.map_nil] at e1
  rw [e1, Option.map_eq_some_iff] at hF
  obtain ⟨ox, hox, rfl⟩ := hF
  have hPx : ∀ x ∈ ox, P x := (Bfs.inv (d := dx) (k := k) (s := (M.s, N.s)) ⟨F, hox⟩ P (hs _ (List.mem_singleton.2 rfl)) (fun p a ha hp => hP p a ha hp)).1
  have e2 := bfsGo_map (d := dx) (d' := N.d) (k := k) (g := Prod.snd) (P := P) g2 (fun x a _ _ => rfl) hP (F := F) (i := 0) hs
  simp only [List.map_cons, List.map_nil, hox, Option.map_some] at e2
  have e3 : o' = ox.map Prod.snd := Bfs.det ho' ⟨F, e2⟩
  subst e3
  rw [tab_map (d := dx) (d' := M.d) (g := Prod.fst) (P := P) (f := fun x => M.f x.1) (f' := M.f) g1 (fun _ _ _ _ => rfl) hP (fun _ _ => rfl) hPx,
    tab_map (d := dx) (d' := N.d) (g := Prod.snd) (P := P) (f := fun x => M.f x.1) (f' := N.f) g2 (fun _ _ _ _ => rfl) hP (fun x hx => hx.2.2.fin.symm) hPx]

/-! ### tables as automata -/

/-- The automaton of a table. -/
def ofTab (t : List Bool × List (List Nat)) (s : Nat) : FA := ⟨t.1.length, s, fun q => t.1.getD q false, fun q a => (t.2.getD q []).getD a 0⟩

theorem getD_map {α β : Type} (g : α → β) (l : List α) (i : Nat) (d : α) (e : β) (h : i < l.length) : (l.map g).getD i e = g (l.getD i d) := by
  simp [h]

theorem ofTab_hom {M : FA} {k : Nat} {ord : List Nat} (hb : Bfs M.d k M.s ord) (hM : M.Ok k) : (ofTab (tab M.d M.f k ord) 0).Ok k ∧ Same k (ofTab (tab M.d M.f k ord) 0) 0 M M.s := by
  obtain ⟨h1, h2, ⟨t, h3⟩, h4⟩ := hb.inv (fun q => q < M.n) hM.1 (fun p a ha hp => hM.2 p a hp ha)
  have hl : ord.length > 0 := by rw [h3]; simp
  have hd : ∀ i a, i < ord.length → a < k → (ofTab (tab M.d M.f k ord) 0).d i a = ord.idxOf (M.d (ord.getD i 0) a) := fun i a hi ha => by
    simp only [ofTab, tab]
    rw [getD_map _ _ _ 0 _ hi, getD_map _ _ _ 0 _ (by simpa using ha)]
    simp [ha]
  have hin : ∀ i a, i < ord.length → a < k → M.d (ord.getD i 0) a ∈ ord := fun i a hi ha => h4 _ (by simp [hi]) a ha
  refine ⟨⟨by simpa [ofTab, tab] using hl, fun q a hq ha => ?_⟩, ?_⟩
  · have hq' : q < ord.length := by simpa [ofTab, tab] using hq
    rw [hd q a hq' ha]
    have := List.idxOf_lt_length_of_mem (hin q a hq' ha)
    simpa [ofTab, tab] using this
  · refine same_of_bisim (fun i q => i < ord.length ∧ q = ord.getD i 0) (fun i q h => ?_) (fun i q a ha h => ?_) ⟨hl, by rw [h3]; rfl⟩
    · obtain ⟨hi, rfl⟩ := h
      simp only [ofTab, tab]
      rw [getD_map _ _ _ 0 _ hi]
    · obtain ⟨hi, rfl⟩ := h
      rw [hd i a hi ha]
      have hm := hin i a hi ha
      have hlt := List.idxOf_lt_length_of_mem hm
      refine ⟨hlt, ?_⟩
      generalize M.d (ord.getD i 0) a = x at hm hlt
      rw [List.getD_eq_getElem?_getD, List.getElem?_eq_getElem hlt, Option.getD_some, List.getElem_idxOf hlt]

/-! ### quotients -/

/-- The first states of the classes. -/
def reps (cl : List Nat) : Nat → List Nat
  | 0 => []
  | i + 1 => if cl.getD i 0 < (reps cl i).length then reps cl i else reps cl i ++ [i]

/-- Classes are numbered in the order of their first members. -/
def First (cl : List Nat) : Prop := ∀ i, i < cl.length → cl.getD i 0 ≤ (reps cl i).length

theorem reps_spec {cl : List Nat} (h : First cl) : ∀ {i : Nat}, i ≤ cl.length → (∀ j, j < i → cl.getD j 0 < (reps cl i).length) ∧ (∀ j, j < (reps cl i).length → (reps cl i).getD j 0 < i ∧ cl.getD ((reps cl i).getD j 0) 0 = j)
  | 0, _ => ⟨fun j hj => by omega, fun j hj => by simp [reps] at hj⟩
  | i + 1, hi => by
    obtain ⟨h1, h2⟩ := reps_spec h (i := i) (by omega)
    have hf := h i (by omega)
    simp only [reps]
    split
    · rename_i hlt
      refine ⟨fun j hj => ?_, fun j hj => ⟨by have := (h2 j hj).1; omega, (h2 j hj).2⟩⟩
      by_cases e : j = i
      · subst e; exact hlt
      · exact h1 j (by omega)
    · rename_i hlt
      have he : cl.getD i 0 = (reps cl i).length := by omega
      refine ⟨fun j hj => ?_, fun j hj => ?_⟩
      · rw [List.length_append, List.length_singleton]
        by_cases e : j = i
        · subst e; omega
        · have := h1 j (by omega); omega
      · rw [List.length_append] at hj
        simp only [List.length_singleton] at hj
        by_cases e : j < (reps cl i).length
        · have e' : (reps cl i ++ [i]).getD j 0 = (reps cl i).getD j 0 := by simp [List.getElem?_append_left e]
          rw [e']
          exact ⟨by have := (h2 j e).1; omega, (h2 j e).2⟩
        · have ej : j = (reps cl i).length := by omega
          subst ej
          have e' : (reps cl i ++ [i]).getD (reps cl i).length 0 = i := by simp
          rw [e']
          exact ⟨by omega, he⟩

/-- The automaton of the classes. -/
def quot (M : FA) (cl : List Nat) : FA :=
  ⟨(reps cl M.n).length, cl.getD M.s 0, fun j => M.f ((reps cl M.n).getD j 0), fun j a => cl.getD (M.d ((reps cl M.n).getD j 0) a) 0⟩

/-- Classes that tell languages apart. -/
def Nerode (k : Nat) (M : FA) (cl : List Nat) : Prop := cl.length = M.n ∧ First cl ∧ ∀ p q, p < M.n → q < M.n → (cl.getD p 0 = cl.getD q 0 ↔ Same k M p M q)

theorem quot_ok {k : Nat} {M : FA} {cl : List Nat} (hM : M.Ok k) (h : Nerode k M cl) : (quot M cl).Ok k ∧ (quot M cl).Reduced k ∧ Same k (quot M cl) (quot M cl).s M M.s := by
  obtain ⟨hl, hf, hs⟩ := h
  obtain ⟨r1, r2⟩ := reps_spec hf (i := M.n) (by omega)
  have hrep : ∀ q, q < M.n → (reps cl M.n).getD (cl.getD q 0) 0 < M.n ∧ Same k M ((reps cl M.n).getD (cl.getD q 0) 0) M q := fun q hq => by
    obtain ⟨a, b⟩ := r2 _ (r1 q hq)
    exact ⟨a, (hs _ _ a hq).1 b⟩
  have hsame : ∀ q, q < M.n → Same k (quot M cl) (cl.getD q 0) M q := fun q hq => by
    refine same_of_bisim (fun c q => q < M.n ∧ c = cl.getD q 0) (fun c q h => ?_) (fun c q a ha h => ?_) ⟨hq, rfl⟩
    · obtain ⟨hq, rfl⟩ := h
      exact (hrep q hq).2.fin
    · obtain ⟨hq, rfl⟩ := h
      refine ⟨hM.2 q a hq ha, ?_⟩
      simp only [quot]
      exact (hs _ _ (hM.2 _ a (hrep q hq).1 ha) (hM.2 q a hq ha)).2 ((hrep q hq).2.step ha)
  refine ⟨⟨r1 _ hM.1, fun q a hq ha => r1 _ (hM.2 _ a (r2 q hq).1 ha)⟩, fun p q hp hq h => ?_, hsame _ hM.1⟩
  obtain ⟨p1, p2⟩ := r2 p hp
  obtain ⟨q1, q2⟩ := r2 q hq
  have e1 : (quot M cl).n = (reps cl M.n).length := rfl
  have a1 := hsame _ p1
  have a2 := hsame _ q1
  rw [p2] at a1
  rw [q2] at a2
  have := (hs _ _ p1 q1).2 (a1.symm.trans (h.trans a2))
  rw [p2, q2] at this
  exact this
end Go.Aut
end

section
namespace Go.Aut

section
variable {κ : Type} [DecidableEq κ]

/-- The different keys among the first ones. -/
def dist (keys : List κ) (dk : κ) : Nat → List κ
  | 0 => []
  | i + 1 => visit (dist keys dk i) (keys.getD i dk)

theorem mem_dist {keys : List κ} {dk x : κ} : ∀ {i : Nat}, x ∈ dist keys dk i ↔ ∃ j, j < i ∧ x = keys.getD j dk
  | 0 => by simp [dist]
  | i + 1 => by
    simp only [dist, mem_visit, mem_dist (i := i)]
    constructor
    · rintro (⟨j, h, e⟩ | e)
      · exact ⟨j, by omega, e⟩
      · exact ⟨i, by omega, e⟩
    · rintro ⟨j, h, e⟩
      by_cases ej : j = i
      · subst ej; exact .inr e
      · exact .inl ⟨j, by omega, e⟩

theorem dist_prefix (keys : List κ) (dk : κ) {i : Nat} : ∀ {n : Nat}, i ≤ n → ∃ t, dist keys dk n = dist keys dk i ++ t
  | 0, h => by obtain rfl : i = 0 := by omega
               exact ⟨[], by simp [dist]⟩
  | n + 1, h => by
    by_cases e : i = n + 1
    · subst e; exact ⟨[], by simp⟩
    · obtain ⟨t, ht⟩ := dist_prefix keys dk (i := i) (n := n) (by omega)
      obtain ⟨u, hu⟩ := visit_prefix (dist keys dk n) (keys.getD n dk)
      exact ⟨t ++ u, by show visit (dist keys dk n) _ = _; rw [hu, ht, List.append_assoc]⟩

theorem idxOf_append {l t : List κ} {x : κ} (h : x ∈ l) : (l ++ t).idxOf x = l.idxOf x := by
  rw [List.idxOf_append, if_pos h]

theorem idxOf_new {l : List κ} {x : κ} (h : x ∉ l) : (l ++ [x]).idxOf x = l.length := by
  rw [List.idxOf_append, if_neg h]; simp

/-- The place of a key among the first ones stays. -/
theorem dist_idx {keys : List κ} {dk x : κ} {i n : Nat} (h : x ∈ dist keys dk i) (hn : i ≤ n) : (dist keys dk n).idxOf x = (dist keys dk i).idxOf x := by
  obtain ⟨t, ht⟩ := dist_prefix keys dk hn
  rw [ht, idxOf_append h]

/-- Numbers of keys. -/
def number (keys : List κ) (dk : κ) : List Nat := (List.range keys.length).map fun i => (dist keys dk keys.length).idxOf (keys.getD i dk)

theorem number_length (keys : List κ) (dk : κ) : (number keys dk).length = keys.length := by simp [number]
theorem number_get {keys : List κ} {dk : κ} {i : Nat} (h : i < keys.length) : (number keys dk).getD i 0 = (dist keys dk (i + 1)).idxOf (keys.getD i dk) := by
  have : (number keys dk).getD i 0 = (dist keys dk keys.length).idxOf (keys.getD i dk) := by simp [number, h]
  rw [this]
  exact dist_idx (mem_dist.2 ⟨i, by omega, rfl⟩) (by omega)

theorem idxOf_inj {l : List κ} {x y : κ} (hx : x ∈ l) (hy : y ∈ l) (h : l.idxOf x = l.idxOf y) : x = y := by
  have a := List.idxOf_lt_length_of_mem hx
  have b := List.idxOf_lt_length_of_mem hy
  have ea : l[l.idxOf x] = x := List.getElem_idxOf a
  have eb : l[l.idxOf y] = y := List.getElem_idxOf b
  rw [← ea, ← eb]
  congr 1

theorem number_eq {keys : List κ} {dk : κ} {p q : Nat} (hp : p < keys.length) (hq : q < keys.length) : (number keys dk).getD p 0 = (number keys dk).getD q 0 ↔ keys.getD p dk = keys.getD q dk := by
  have e : ∀ i, i < keys.length → (number keys dk).getD i 0 = (dist keys dk keys.length).idxOf (keys.getD i dk) := fun i h => by simp [number, h]
  rw [e p hp, e q hq]
  exact ⟨fun h => idxOf_inj (mem_dist.2 ⟨p, hp, rfl⟩) (mem_dist.2 ⟨q, hq, rfl⟩) h, fun h => by rw [h]⟩

theorem reps_number {keys : List κ} {dk : κ} : ∀ {i : Nat}, i ≤ keys.length → (reps (number keys dk) i).length = (dist keys dk i).length
  | 0, _ => rfl
  | i + 1, h => by
    have ih := reps_number (keys := keys) (dk := dk) (i := i) (by omega)
    have hg := number_get (dk := dk) (show i < keys.length by omega)
    simp only [reps, dist]
    rw [hg, ih]
    unfold visit
    by_cases hm : keys.getD i dk ∈ dist keys dk i
    · have : (dist keys dk (i + 1)).idxOf (keys.getD i dk) < (dist keys dk i).length := by
        rw [dist_idx hm (by omega)]; exact List.idxOf_lt_length_of_mem hm
      rw [if_pos this, if_pos hm, ih]
    · have : ¬ (dist keys dk (i + 1)).idxOf (keys.getD i dk) < (dist keys dk i).length := by
        simp only [dist, visit, if_neg hm]
        rw [List.idxOf_append, if_neg hm]; omega
      rw [if_neg this, if_neg hm, List.length_append, List.length_append, ih]
      rfl

theorem number_first (keys : List κ) (dk : κ) : First (number keys dk) := by
  intro i hi
  rw [number_length] at hi
  rw [reps_number (by omega), number_get hi]
  have h1 : (dist keys dk (i + 1)).length ≤ (dist keys dk i).length + 1 := by
    simp only [dist, visit]; split <;> simp
  have h2 := List.idxOf_lt_length_of_mem (mem_dist.2 ⟨i, by omega, rfl⟩ : keys.getD i dk ∈ dist keys dk (i + 1))
  omega
end

/-- One round of splitting. -/
def IsStep (k : Nat) (M : FA) (cl nx : List Nat) : Prop :=
  nx.length = M.n ∧ First nx ∧ ∀ p q, p < M.n → q < M.n → (nx.getD p 0 = nx.getD q 0 ↔ cl.getD p 0 = cl.getD q 0 ∧ ∀ a, a < k → cl.getD (M.d p a) 0 = cl.getD (M.d q a) 0)

/-- Classes on the way. -/
def Coarse (k : Nat) (M : FA) (cl : List Nat) : Prop :=
  (∀ p q, p < M.n → q < M.n → Same k M p M q → cl.getD p 0 = cl.getD q 0) ∧ ∀ p q, p < M.n → q < M.n → cl.getD p 0 = cl.getD q 0 → M.f p = M.f q

theorem Coarse.step {k : Nat} {M : FA} {cl nx : List Nat} (hM : M.Ok k) (h : Coarse k M cl) (hs : IsStep k M cl nx) : Coarse k M nx :=
  ⟨fun p q hp hq e => (hs.2.2 p q hp hq).2 ⟨h.1 p q hp hq e, fun a ha => h.1 _ _ (hM.2 p a hp ha) (hM.2 q a hq ha) (e.step ha)⟩,
   fun p q hp hq e => h.2 p q hp hq ((hs.2.2 p q hp hq).1 e).1⟩

theorem Coarse.nerode {k : Nat} {M : FA} {cl : List Nat} (hM : M.Ok k) (h : Coarse k M cl) (hs : IsStep k M cl cl) : Nerode k M cl :=
  ⟨hs.1, hs.2.1, fun p q hp hq => ⟨fun e => same_of_bisim (fun p q => p < M.n ∧ q < M.n ∧ cl.getD p 0 = cl.getD q 0) (fun p q hh => h.2 p q hh.1 hh.2.1 hh.2.2)
    (fun p q a ha hh => ⟨hM.2 p a hh.1 ha, hM.2 q a hh.2.1 ha, ((hs.2.2 p q hh.1 hh.2.1).1 hh.2.2).2 a ha⟩) ⟨hp, hq, e⟩, fun e => h.1 p q hp hq e⟩⟩

/-- A finer numbering has more classes, or is the same. -/
theorem finer {n : Nat} {cl nx : List Nat} (hc : cl.length = n) (hn : nx.length = n) (fc : First cl) (fn : First nx) (h : ∀ p q, p < n → q < n → nx.getD p 0 = nx.getD q 0 → cl.getD p 0 = cl.getD q 0) :
    ∀ {i : Nat}, i ≤ n → (reps cl i).length < (reps nx i).length ∨ ((reps cl i).length = (reps nx i).length ∧ ∀ p, p < i → nx.getD p 0 = cl.getD p 0)
  | 0, _ => .inr ⟨rfl, fun p hp => by omega⟩
  | i + 1, hi => by
    have ih := finer hc hn fc fn h (i := i) (by omega)
    obtain ⟨c1, c2⟩ := reps_spec fc (i := i) (by omega)
    obtain ⟨n1, n2⟩ := reps_spec fn (i := i) (by omega)
    have hcf := fc i (by omega)
    have hnf := fn i (by omega)
    -- a new class of the coarser one is new in the finer one
    have hnew : ¬ cl.getD i 0 < (reps cl i).length → ¬ nx.getD i 0 < (reps nx i).length := fun hh hlt => by
      obtain ⟨p1, p2⟩ := n2 _ hlt
      have := h _ i (by omega) (by omega) p2
      have := c1 _ p1
      omega
    simp only [reps]
    rcases ih with ih | ⟨ih, hp⟩
    · left
      by_cases hcn : cl.getD i 0 < (reps cl i).length
      · rw [if_pos hcn]
        split
        · exact ih
        · rw [List.length_append]; omega
      · rw [if_neg hcn, if_neg (hnew hcn), List.length_append, List.length_append, List.length_singleton]; omega
    · by_cases hcn : cl.getD i 0 < (reps cl i).length
      · rw [if_pos hcn]
        by_cases hnn : nx.getD i 0 < (reps nx i).length
        · rw [if_pos hnn]
          right
          refine ⟨ih, fun p hpi => ?_⟩
          by_cases e : p = i
          · subst e
            obtain ⟨q1, q2⟩ := n2 _ hnn
            have a := h _ p (by omega) (by omega) q2
            have b := hp _ q1
            omega
          · exact hp p (by omega)
        · rw [if_neg hnn, List.length_append, List.length_singleton]; left; omega
      · have hnn := hnew hcn
        rw [if_neg hcn, if_neg hnn, List.length_append, List.length_append, List.length_singleton]
        right
        refine ⟨by omega, fun p hpi => ?_⟩
        by_cases e : p = i
        · subst e; omega
        · exact hp p (by omega)

theorem getD_ext {a b : List Nat} (hl : a.length = b.length) (h : ∀ p, p < a.length → a.getD p 0 = b.getD p 0) : a = b := by
  apply List.ext_getElem hl
  intro i h1 h2
  have := h i h1
  simpa [h1, h2] using this

/-- Nothing more is split: the numbers are the same. -/
theorem step_stop {k : Nat} {M : FA} {cl nx : List Nat} (hl : cl.length = M.n) (fc : First cl) (hs : IsStep k M cl nx) : (reps cl M.n).length < (reps nx M.n).length ∨ nx = cl := by
  rcases finer hl hs.1 fc hs.2.1 (fun p q hp hq e => ((hs.2.2 p q hp hq).1 e).1) (Nat.le_refl M.n) with h | ⟨_, h⟩
  · exact .inl h
  · exact .inr (getD_ext (by rw [hs.1, hl]) fun p hp => h p (by rw [hs.1] at hp; exact hp))

theorem reps_le (cl : List Nat) : ∀ n, (reps cl n).length ≤ n
  | 0 => Nat.le_refl _
  | n + 1 => by
    have := reps_le cl n
    simp only [reps]
    split
    · omega
    · rw [List.length_append, List.length_singleton]; omega

/-- What is the minimal automaton, its states in breadth-first order. -/
def Minimal (k : Nat) (M : FA) (t : List Bool × List (List Nat)) : Prop := ∃ D : FA, D.Ok k ∧ D.Reduced k ∧ Same k D D.s M M.s ∧ D.Tab k t

theorem Minimal.unique {k : Nat} {M N : FA} {t u : List Bool × List (List Nat)} (h : Minimal k M t) (h' : Minimal k N u) (hs : Same k M M.s N N.s) : t = u := by
  obtain ⟨D, d1, d2, d3, d4⟩ := h
  obtain ⟨E, e1, e2, e3, e4⟩ := h'
  exact tab_unique d1 e1 d2 e2 (d3.trans (hs.trans e3.symm)) d4 e4

/-- The quotient by the classes of the words, trimmed, is the minimal automaton. -/
theorem Minimal.of_quot {k : Nat} {M N : FA} {cl : List Nat} {t : List Bool × List (List Nat)} (hM : M.Ok k) (hn : Nerode k M cl) (hs : Same k M M.s N N.s) (ht : (quot M cl).Tab k t) : Minimal k N t := by
  obtain ⟨q1, q2, q3⟩ := quot_ok hM hn
  exact ⟨_, q1, q2, q3.trans hs, ht⟩
end Go.Aut
end

section
set_option linter.unusedVariables false
namespace Go.EvW
open Go Go.Ev _root_.Ev

section
variable {N : Nat} {s0 s s' : St} {L : List Item} {M P : Nat → Prop} {prog : Nat → Option CFunc} {ρ : Env} {Q : Env → St → Prop}

/-- A map that numbers keys in the order in which they came. -/
def mapE : List (List UInt8) → Nat → List (Value × Value × Nat)
  | [], _ => []
  | k :: r, i => (.string ⟨⟨k⟩⟩, .int .i64 ((i : Nat) : Int), i) :: mapE r (i + 1)

theorem mapE_length : ∀ (l : List (List UInt8)) (i : Nat), (mapE l i).length = l.length
  | [], _ => rfl
  | k :: r, i => by simp [mapE, mapE_length r]
theorem mapE_snoc : ∀ (l : List (List UInt8)) (i : Nat) (k : List UInt8), mapE (l ++ [k]) i = mapE l i ++ [(.string ⟨⟨k⟩⟩, .int .i64 ((i + l.length : Nat) : Int), i + l.length)]
  | [], i, k => by simp [mapE]
  | x :: r, i, k => by
    simp only [List.cons_append, mapE, mapE_snoc r, List.length_cons]
    rw [show i + 1 + r.length = i + (r.length + 1) by omega]

theorem beqBytes_eq : ∀ a b : List UInt8, beqBytes a b = decide (a = b)
  | [], [] => rfl
  | [], _ :: _ => rfl
  | _ :: _, [] => rfl
  | a :: x, b :: y => by
    simp only [beqBytes]
    cases h : Nat.beq a.toNat b.toNat with
    | true =>
      have := Nat.eq_of_beq_eq_true h
      have e : a = b := UInt8.toNat_inj.1 this
      subst e
      simp only [beqBytes_eq x y]
      simp
    | false =>
      have hne : a ≠ b := fun e => by subst e; rw [Nat.beq_refl] at h; cases h
      simp [hne]

theorem flatStr (a b : List UInt8) : flatEq (.one .str) (.string ⟨⟨a⟩⟩) (.string ⟨⟨b⟩⟩) = some (decide (a = b)) := by
  show some (beqBytes a b) = _
  rw [beqBytes_eq]

theorem findK_mapE (k : List UInt8) : ∀ (l : List (List UInt8)) (i j : Nat), findK (.one .str) (.string ⟨⟨k⟩⟩) (mapE l i) j = some (if k ∈ l then some (j + l.idxOf k, .int .i64 ((i + l.idxOf k : Nat) : Int), i + l.idxOf k) else none)
  | [], i, j => by simp [mapE, findK]
  | x :: r, i, j => by
    simp only [mapE, findK, flatStr]
    by_cases e : k = x
    · subst e
      simp
    · have ih := findK_mapE k r (i + 1) (j + 1)
      rw [decide_eq_false e]
      simp only []
      rw [show Nat.succ j = j + 1 from rfl, ih]
      have hx : ¬ x = k := fun h => e h.symm
      by_cases hm : k ∈ r
      · rw [if_pos hm, if_pos (List.mem_cons_of_mem _ hm), List.idxOf_cons]
        have hb : (x == k) = false := by simp [hx]
        rw [hb]
        simp only [cond_false]
        rw [show j + 1 + r.idxOf k = j + (r.idxOf k + 1) by omega, show i + 1 + r.idxOf k = i + (r.idxOf k + 1) by omega]
      · rw [if_neg hm, if_neg (by simp [e, hm])]

def Item.num (A : Nat) (l : List (List UInt8)) : Item := ⟨[A], fun s => A < s.nextId ∧ s.obj A = some (.map (mapE l 0) l.length),
  fun {s s'} h1 h2 ⟨h3, h4⟩ => ⟨Nat.lt_of_lt_of_le h3 h1, by rw [h2 A (List.mem_singleton.2 rfl)]; exact h4⟩,
  fun {s} h B hB => by rw [List.mem_singleton] at hB; subst hB; exact h.1⟩

theorem mapOf_num {A : Nat} {l : List (List UInt8)} (h : (Item.num A l).ok s) : s.mapOf A = some (mapE l 0, l.length) := by
  obtain ⟨h1, h2⟩ := h
  cases s with | mk hp nx ep =>
  simp only [St.obj] at h2
  simp only [St.mapOf, h2]

theorem Wo.mkMapH {d : Nat} {r : List CE} (H : Hs N s0 s L) (K : ∀ s', Hs N s0 s' (L ++ [Item.num s.nextId []]) → s'.nextId = s.nextId + 1 → Wo prog r (upd ρ d (.map (some s.nextId))) s' Q) : Wo prog (⟨some d, .mkMap, none⟩ :: r) ρ s Q := by
  refine Wo.op (s' := (s.new (.map [] 0)).2) (fun t ht => ?_) (K _ (H.add new_chg ⟨by rw [next_new]; omega, by rw [obj_new, if_pos rfl]; rfl⟩ (fun B hB => by rw [List.mem_singleton.1 hB]; exact Nat.le_refl _)) (next_new _ _))
  simp only [doOp]
  rw [show s.new (.map [] 0) = ((s.new (.map [] 0)).1, (s.new (.map [] 0)).2) from rfl, id_new]

section
variable {m k v : Opd} {A : Nat} {l : List (List UInt8)} {key : List UInt8}
theorem Step.lookupIn (H : Hs N s0 s L) (i : Nat) (hm : m.evE ρ = .map (some A)) (hi : L[i]? = some (Item.num A l)) (hk : k.evE ρ = .string ⟨⟨key⟩⟩) (hin : key ∈ l) {z : Value} : Step ρ s (.lookup (.one .str) z true m k) (.tuple ⟨[.int .i64 ((l.idxOf key : Nat) : Int), .bool true]⟩) s := by
  intro t ht
  have h1 : mapGet s (.one .str) (.map (some A)) (.string ⟨⟨key⟩⟩) = some (some (l.idxOf key, .int .i64 ((l.idxOf key : Nat) : Int), l.idxOf key)) := by
    simp only [mapGet, mapOf_num (H.ok i _ hi), flatStr, decide_true, findK_mapE, if_pos hin, Nat.zero_add]
  simp only [doOp, ht.ev, hm, hk, h1]
theorem Step.lookupOut (H : Hs N s0 s L) (i : Nat) (hm : m.evE ρ = .map (some A)) (hi : L[i]? = some (Item.num A l)) (hk : k.evE ρ = .string ⟨⟨key⟩⟩) (hin : key ∉ l) {z : Value} : Step ρ s (.lookup (.one .str) z true m k) (.tuple ⟨[z, .bool false]⟩) s := by
  intro t ht
  have h1 : mapGet s (.one .str) (.map (some A)) (.string ⟨⟨key⟩⟩) = some none := by
    simp only [mapGet, mapOf_num (H.ok i _ hi), flatStr, decide_true, findK_mapE, if_neg hin]
  simp only [doOp, ht.ev, hm, hk, h1]
theorem beq_inst : (List.instBEq : BEq (List UInt8)) = instBEqOfDecidableEq := by
  have h : ∀ a b : List UInt8, @BEq.beq _ List.instBEq a b = @BEq.beq _ instBEqOfDecidableEq a b := fun a b => by
    rw [Bool.eq_iff_iff, beq_iff_eq]
    exact (@beq_iff_eq _ instBEqOfDecidableEq _ a b).symm
  exact congrArg BEq.mk (funext fun a => funext fun b => h a b)
theorem idxOf_inst (key : List UInt8) (l : List (List UInt8)) : l.idxOf key = @List.idxOf _ instBEqOfDecidableEq key l := by rw [beq_inst]
theorem Step.lookupG (H : Hs N s0 s L) (i : Nat) (hm : m.evE ρ = .map (some A)) (hi : L[i]? = some (Item.num A l)) (hk : k.evE ρ = .string ⟨⟨key⟩⟩) : Step ρ s (.lookup (.one .str) (.int .i64 (.ofNat 0)) true m k) (.tuple ⟨[.int .i64 (if key ∈ l then ((@List.idxOf _ instBEqOfDecidableEq key l : Nat) : Int) else 0), .bool (decide (key ∈ l))]⟩) s := by
  rw [← idxOf_inst]
  by_cases h : key ∈ l
  · rw [if_pos h, decide_eq_true h]; exact Step.lookupIn H i hm hi hk h
  · rw [if_neg h, decide_eq_false h]; exact Step.lookupOut H i hm hi hk h
theorem Step.lenMap (H : Hs N s0 s L) (i : Nat) (hm : m.evE ρ = .map (some A)) (hi : L[i]? = some (Item.num A l)) : Step ρ s (.lenMap m) (.int .i64 ((l.length : Nat) : Int)) s := by
  intro t ht
  simp only [doOp, ht.ev, hm, mapOf_num (H.ok i _ hi), len_eq, mapE_length, Nat.add_zero]; rfl
theorem snocF_eq {α : Type} : ∀ (l : List α) (x : α), snocF l x = l ++ [x]
  | [], x => rfl
  | y :: ys, x => by
    simp only [snocF, snocF_eq ys]
    cases h : ys ++ [x] with
    | nil => simp at h
    | cons z zs => simp [h]
theorem Wo.mapNew {r : List CE} {n : Int} (H : Hs N s0 s L) (i : Nat) (hm : m.evE ρ = .map (some A)) (hi : L[i]? = some (Item.num A l)) (hk : k.evE ρ = .string ⟨⟨key⟩⟩) (hv : v.evE ρ = .int .i64 n) (hn : n = l.length) (hin : key ∉ l)
    (K : ∀ s', Hs N s0 s' (L.set i (Item.num A (l ++ [key]))) → s'.nextId = s.nextId → Wo prog r ρ s' Q) : Wo prog (⟨none, .mapSet (.one .str) m k v, none⟩ :: r) ρ s Q := by
  have hok := H.ok i _ hi
  obtain ⟨o1, o2⟩ := id hok
  have hne : mapSetF s (.one .str) (.map (some A)) (.string ⟨⟨key⟩⟩) (.int .i64 n) = some (s.setObj A (.map (mapE (l ++ [key]) 0) (l ++ [key]).length)) := by
    simp only [mapSetF, mapOf_num hok, flatStr, decide_true, findK_mapE, if_neg hin, snocF_eq, mapE_snoc, Nat.zero_add, List.length_append, List.length_singleton]
    subst hn; rfl
  refine Wo.op0 (v := undefV) (s' := s.setObj A (.map (mapE (l ++ [key]) 0) (l ++ [key]).length)) (fun t ht => by simp only [doOp, ht.ev, hm, hk, hv, hne]) (K _ (H.upd hi (M := fun B => B = A) ?_ (fun B hB => List.mem_singleton.2 hB) ?_ (fun B hB => .inl hB)) ?_)
  · cases s with | mk hp nx ep =>
    refine ⟨Nat.le_refl _, fun B hB hM => ?_⟩
    simp only [St.setObj, St.obj, T.get_set, if_neg hM]
  · cases s with | mk hp nx ep =>
    exact ⟨o1, by simp only [St.setObj, St.obj, T.get_set, if_true]⟩
  · cases s; rfl
end

/-! ### rows with room -/

theorem spl_mid {cs new : List Value} {o : Nat} : o + new.length ≤ cs.length → spl cs o new = some (cs.take o ++ new ++ cs.drop (o + new.length)) := by
  induction cs generalizing o new with
  | nil =>
    intro h
    cases new with
    | nil => simp at h; subst h; simp [spl]
    | cons v vs => simp at h
  | cons c cs ih =>
    intro h
    cases o with
    | zero =>
      cases new with
      | nil => simp [spl]
      | cons v vs =>
        have := ih (o := 0) (new := vs) (by simp at h ⊢; omega)
        simp only [spl, this]
        simp
    | succ o =>
      have := ih (o := o) (new := new) (by simp at h; omega)
      simp only [spl, this]
      simp [Nat.add_right_comm]

/-- append where there is room. -/
theorem Step.appRoom {A e bytes n c k : Nat} {x y : Opd} {w : Value} {cs new : List Value} (hx : x.evE ρ = .slice (some ⟨A, 0, none⟩) n c) (ho : Own s A 1 cs) (hc : cs.length = c) (hy : y.evE ρ = w) (hw : Sl s P 1 w k new) (hnk : n + k ≤ c) (hk : 0 < k) (h1 : ones new = true) :
    ∃ s', Step ρ s (.append e 1 bytes x y) (.slice (some ⟨A, 0, none⟩) (n + k) c) s' ∧ Wrt A s s' ∧ Own s' A 1 (cs.take n ++ new ++ cs.drop (n + k)) ∧ s'.nextId = s.nextId := by
  have hl := hw.len
  have hsp := spl_mid (cs := cs) (new := new) (o := n) (by omega)
  rw [show n + new.length = n + k by omega] at hsp
  obtain ⟨s', e1, e2, e3, e4⟩ := write_row ho hsp
  refine ⟨s', fun t ht => ?_, e2, e3, e4⟩
  have hne : ∃ a b, new = a :: b := by
    cases new with
    | nil => simp at hl; omega
    | cons a b => exact ⟨a, b, rfl⟩
  obtain ⟨a, b, rfl⟩ := hne
  have hble : Nat.ble (n + k) c = true := Nat.ble_eq_true_of_le hnk
  simp only [doOp, ht.ev, hx, hy, appendF, hw.srcLen, hw.srcCells, hble, h1, Nat.zero_add, Nat.mul_one, e1]

/-- Bytes with room behind them. -/
def roomU (bs : List UInt8) (c : Nat) : List Value := enU (bs ++ List.replicate (c - bs.length) 0)

theorem roomU_app {bs new : List UInt8} {c : Nat} (h : bs.length + new.length ≤ c) : (roomU bs c).take bs.length ++ enU new ++ (roomU bs c).drop (bs.length + new.length) = roomU (bs ++ new) c := by
  unfold roomU enU
  simp only [List.map_append, List.map_replicate]
  rw [List.take_left' (by simp), List.drop_append, List.drop_eq_nil_of_le (by simp)]
  simp only [List.length_map, List.length_append, List.nil_append]
  rw [show bs.length + new.length - bs.length = new.length by omega, List.drop_replicate, show c - bs.length - new.length = c - (bs.length + new.length) by omega]

theorem Hs.rstr (H : Hs N s0 s L) (i : Nat) {A n c : Nat} {bs : List UInt8} (hi : L[i]? = some (Item.own A 1 (roomU bs c))) (hn : n = bs.length) (hc : bs.length ≤ c) : IsBytes s (fun B => B = A) (.slice (some ⟨A, 0, none⟩) n c) bs := by
  subst hn
  refine ⟨_, c, rfl, hc, by simp, .inr ⟨A, 0, _, rfl, rfl, H.row i hi, ?_, ?_⟩⟩
  · simp [roomU]
  · simp [roomU, enU]

theorem Wo.mkRoomH {d e c : Nat} {a b : Opd} {k k' : IntKind} {m : Int} {r : List CE} (H : Hs N s0 s L) (hl : a.evE ρ = .int k 0) (hc : b.evE ρ = .int k' m) (hm : m = ((c : Nat) : Int)) (hb : c ≤ 281474976710656)
    (K : ∀ s', Hs N s0 s' (L ++ [Item.own s.nextId 1 (roomU [] c)]) → s'.nextId = s.nextId + 1 → Wo prog r (upd ρ d (.slice (some ⟨s.nextId, 0, none⟩) 0 c)) s' Q) : Wo prog (⟨some d, .mkSlice e 1 1 [.int .u8 (.ofNat 0)] a b, none⟩ :: r) ρ s Q := by
  subst hm
  refine Wo.mkSliceH (l := 0) (m := ((c : Nat) : Int)) (cs := roomU [] c) H hl hc (by omega) (by simp; omega) (by rw [zeroU]; rfl) fun s' h => ?_
  exact K s' h

/-- append(k, b..) for bytes with room: the bytes of a row built on the way. -/
theorem Wd.appRoom {A e e2 bytes n c m d1 d2 kk hi1 hi2 : Nat} {x : Opd} {cs0 : List Value} {ps : List (Nat × Opd)} {bs new : List UInt8} {r : List (CE × Nat)} {HH : Nat → St → Prop} (H : Hs N s0 s L) (i : Nat) (hx : x.evE ρ = .slice (some ⟨A, 0, none⟩) n c) (hi : L[i]? = some (Item.own A 1 (roomU bs c))) (hn : n = bs.length)
    (hf : Fill ρ cs0 (offs 1 ps) (enU new)) (hm : m = new.length) (hmc : bs.length + new.length ≤ c) (hm0 : 0 < new.length) (hxd : ∀ n, x = .t n → n ≠ d1) (hhi : hi1 < kk + 1) (hH : ∀ s', Pur s s' → HH kk s')
    (K : ∀ p s', Hs N s0 s' (L.set i (Item.own A 1 (roomU (bs ++ new) c))) → HH (kk + 1) s' ∧ Wd prog r (kk + 1) (fun k' s' => kk + 1 ≤ k' ∧ HH k' s') (upd (upd ρ d1 p) d2 (.slice (some ⟨A, 0, none⟩) (bs ++ new).length c)) s' Q) :
    Wd prog ((⟨some d1, .buildSlice e2 1 m cs0 ps, none⟩, hi1) :: (⟨some d2, .append e 1 bytes x (.t d1), none⟩, hi2) :: r) kk HH ρ s Q := by
  subst hn hm
  have hstep : Step ρ s (.buildSlice e2 1 new.length cs0 ps) (.slice (some ⟨s.nextId, 0, none⟩) new.length new.length) (s.new (.row e2 1 (enU new) none none)).2 := Step.buildSlice fun t ht => by rw [partsS_eq]; exact hf.ok ht
  have hpur : Pur s (s.new (.row e2 1 (enU new) none none)).2 := new_chg
  have hown : Own (s.new (.row e2 1 (enU new) none none)).2 s.nextId 1 (enU new) := own_new
  have H1 := H.pur hpur
  refine Wd.make rfl hstep (ob := .row e2 1 (enU new) none none) (by rw [obj_new, if_pos rfl]) (hH _ hpur) ?_
  have hx' : x.evE (upd ρ d1 (.slice (some ⟨s.nextId, 0, none⟩) new.length new.length)) = .slice (some ⟨A, 0, none⟩) bs.length c := by
    cases x with
    | c v => exact hx
    | t n =>
      have := hxd n rfl
      have hf : Nat.beq n d1 = false := by
        cases hq : Nat.beq n d1 with
        | false => rfl
        | true => exact absurd (Nat.eq_of_beq_eq_true hq) this
      simp only [Opd.evE, upd, hf]; exact hx
  obtain ⟨s', g1, g2, g3, g4⟩ := Step.appRoom (P := fun _ => True) (e := e) (bytes := bytes) (y := .t d1) hx' (H1.own i hi) (by simp [roomU]; omega) (w := .slice (some ⟨s.nextId, 0, none⟩) new.length new.length) (by simp [Opd.evE, upd]) (Sl.of_own hown trivial (by simp)) hmc hm0 (by
    have : ∀ l : List UInt8, ones (enU l) = true := fun l => by induction l with | nil => rfl | cons a l ih => exact ih
    exact this new)
  rw [roomU_app hmc] at g3
  obtain ⟨k1, k2⟩ := K _ s' (H1.upd hi g2 (fun B hB => List.mem_singleton.2 hB) g3 (fun B hB => .inl hB))
  rw [List.length_append] at k2
  exact Wd.eff rfl g1 ⟨fun h => by omega, k1⟩ (Wd.weaken (fun k' s2 hh => ⟨fun h => by omega, hh.2⟩) k2)

/-! ### shifts -/

theorem Step.shrC {x y : Opd} {a : Int} {b m : Nat} (hx : x.evE ρ = .int .i64 a) (hy : y.evE ρ = .int .u64 ((b : Nat) : Int)) (h : 0 ≤ a) (hb : b ≤ 64) (hm : 2 ^ b = m) : Step ρ s (.bin .shr x y) (.int .i64 (a / (m : Int))) s := by
  intro t ht
  obtain ⟨n, rfl⟩ := Int.eq_ofNat_of_zero_le h
  have hmin : minF b 64 = b := by unfold minF; rw [Nat.ble_eq_true_of_le hb]
  have : binF .shr (.int .i64 ((n : Nat) : Int)) (.int .u64 ((b : Nat) : Int)) = some (.int .i64 ((n / m : Nat) : Int)) := by
    show some (Value.int .i64 (.ofNat (Nat.div n (Nat.pow 2 (minF b 64))))) = _
    rw [hmin]
    have : Nat.pow 2 b = m := hm
    rw [this]; rfl
  simp only [doOp, ht.ev, hx, hy, this]
  simp
end
end Go.EvW
end

section
set_option linter.unusedVariables false
namespace Go.EvW
open Go Go.Ev _root_.Ev

section
variable {N : Nat} {s0 s s' : St} {L : List Item} {M P : Nat → Prop} {prog : Nat → Option CFunc} {ρ : Env} {Q : Env → St → Prop}

theorem ones_enI : ∀ l : List Int, ones (enI l) = true
  | [] => rfl
  | _ :: l => ones_enI l
theorem ones_enB : ∀ l : List Bool, ones (enB l) = true
  | [] => rfl
  | _ :: l => ones_enB l

theorem Step.appNil {e bytes k : Nat} {x y : Opd} {w : Value} {new : List Value} (hx : x.evE ρ = .slice none 0 0) (hy : y.evE ρ = w) (hw : Sl s P 1 w k new) (hk : 0 < k) (h1 : ones new = true) (hb : 2 * new.length * bytes ≤ 281474976710656 ∧ new.length ≤ 281474976710656) :
    ∃ v' s', Step ρ s (.append e 1 bytes x y) v' s' ∧ Lsv s' 1 v' new ∧ blks v' = [s.nextId] ∧ Pur s s' ∧ s'.nextId = s.nextId + 1 := by
  obtain ⟨v', s', h2, h3, h4, h5⟩ := append_ok (A := 0) (e := e) (bytes := bytes) (cells := []) Lst.nil hw (by omega) hk h1 (by simpa using hb)
  rw [List.nil_append] at h3
  have hne : new ≠ [] := fun h => by have := hw.len; rw [h] at this; simp at this; omega
  have hv : blks v' = [s.nextId] := by
    rcases h3 with ⟨_, h⟩ | ⟨n, rfl, _⟩
    · exact absurd h hne
    · rfl
  exact ⟨v', s', fun t ht => by simp only [doOp, ht.ev, hx, hy, h2], ⟨s.nextId, h3, by rw [hv, if_neg hne]⟩, hv, h4.mono (fun B _ hB => hB.2 rfl), h5⟩

theorem Wo.appNil {d e bytes k : Nat} {x y : Opd} {w : Value} {new : List Value} {r : List CE} (H : Hs N s0 s L) (hx : x.evE ρ = .slice none 0 0) (hy : y.evE ρ = w) (hw : Sl s P 1 w k new) (hk : 0 < k) (h1 : ones new = true) (hb : 2 * new.length * bytes ≤ 281474976710656 ∧ new.length ≤ 281474976710656)
    (K : ∀ v' s', Pur s s' → Hs N s0 s' (L ++ [Item.lst 1 v' new]) → s'.nextId = s.nextId + 1 → Wo prog r (upd ρ d v') s' Q) : Wo prog (⟨some d, .append e 1 bytes x y, none⟩ :: r) ρ s Q := by
  obtain ⟨v', s', g1, g2, g3, g4, g5⟩ := Step.appNil (e := e) (bytes := bytes) hx hy hw hk h1 hb
  exact Wo.op g1 (K v' s' g4 (H.add g4 g2 (fun B hB => by have hB' : B ∈ blks v' := hB; rw [g3, List.mem_singleton] at hB'; omega)) g5)

theorem Wd.appNil {d e bytes k kk hi : Nat} {x y : Opd} {w : Value} {new : List Value} {r : List (CE × Nat)} {HH : Nat → St → Prop} (H : Hs N s0 s L) (hx : x.evE ρ = .slice none 0 0) (hy : y.evE ρ = w) (hw : Sl s P 1 w k new) (hk : 0 < k) (h1 : ones new = true) (hb : 2 * new.length * bytes ≤ 281474976710656 ∧ new.length ≤ 281474976710656)
    (K : ∀ v' s', Pur s s' → Hs N s0 s' (L ++ [Item.lst 1 v' new]) → s'.nextId = s.nextId + 1 → HH (kk + 1) s' ∧ Wd prog r (kk + 1) HH (upd ρ d v') s' Q) : Wd prog ((⟨some d, .append e 1 bytes x y, none⟩, hi) :: r) kk HH ρ s Q := by
  obtain ⟨v', s', g1, g2, g3, g4, g5⟩ := Step.appNil (e := e) (bytes := bytes) hx hy hw hk h1 hb
  obtain ⟨k1, k2⟩ := K v' s' g4 (H.add g4 g2 (fun B hB => by have hB' : B ∈ blks v' := hB; rw [g3, List.mem_singleton] at hB'; omega)) g5
  exact Wd.eff rfl g1 k1 k2

/-- A row that is ours is appended to a list of rows. -/
theorem Wd.appRowH {e bytes d1 d2 kk hi1 hi2 : Nat} {x y : Opd} {v u z0 : Value} {vs : List Value} {R : List (List Int)} {F : List Nat} {row : List Int} {r : List (CE × Nat)} {HH : Nat → St → Prop} (H : Hs N s0 s L) (i j : Nat) (hij : i ≠ j) (hx : x.evE ρ = v) (hi : L[i]? = some (Item.rows v vs R F)) (hrow : IsInts s (fun B => B ∈ blks u) u row) (hy : y.evE ρ = u) {w : Item} (hj : L[j]? = some w) (hw : w.fp = blks u)
    (hxd : ∀ n, x = .t n → n ≠ d1) (hhi : hi1 < kk + 1) (hb : 2 * (R.length + 1) * bytes ≤ 281474976710656 ∧ R.length + 1 ≤ 281474976710656) (hH : ∀ s', Pur s s' → HH kk s')
    (K : ∀ p v' s' F', Hs N s0 s' ((L.set i (Item.rows v' (vs ++ [u]) (R ++ [row]) F')).set j Item.emp) → s'.nextId = s.nextId + 2 → HH (kk + 1) s' ∧ Wd prog r (kk + 1) (fun k' s' => kk + 1 ≤ k' ∧ HH k' s') (upd (upd ρ d1 p) d2 v') s' Q) :
    Wd prog ((⟨some d1, .buildSlice e 1 1 [z0] [(0, y)], none⟩, hi1) :: (⟨some d2, .append e 1 bytes x (.t d1), none⟩, hi2) :: r) kk HH ρ s Q := by
  have hR := H.rws i hi
  obtain ⟨a1, a2, a3, _, _⟩ := id hR
  obtain ⟨A, g1, g2⟩ := a1
  refine Wd.app1 hx g1 hy hrow.one hxd hhi (by rw [a2]; exact hb) hH fun p v' s' k1 k2 k3 => ?_
  have hv : blks v' = [s.nextId + 1] := by
    rcases k1 with ⟨_, h⟩ | ⟨n, rfl, _⟩
    · simp at h
    · rfl
  have hju : ∀ B, B ∈ blks u → B < s.nextId ∧ B ∉ blks v := fun B hB => by
    rw [← hw] at hB
    exact ⟨w.lt (H.ok j w hj) B hB, fun hn => H.dj j i w _ (fun e => hij e.symm) hj hi B hB (hR.own B hn)⟩
  have c : Chg (fun B => B ∈ blks v) s s' := k2.mono (fun B _ hB => by rw [g2, if_neg hB.2]; exact List.mem_singleton.2 hB.1)
  refine K p v' s' ((s.nextId + 1) :: blks u ++ F) (H.merge hij hi hj c (fun B hB => .inl (hR.own B hB)) (Rws.push a3 a2 ⟨s.nextId + 1, k1, by rw [hv, if_neg (by simp)]⟩ hv (by omega) hR.lt hrow hju c) fun B hB => ?_) k3
  have hB' : B ∈ (s.nextId + 1) :: blks u ++ F := hB
  simp only [List.cons_append, List.mem_cons, List.mem_append] at hB'
  rcases hB' with rfl | h | h
  · exact .inr (.inr (by omega))
  · exact .inr (.inl (by rw [hw]; exact h))
  · exact .inl h

/-! ### maps with whole numbers as keys -/

def mapI : List Int → Nat → List (Value × Value × Nat)
  | [], _ => []
  | k :: r, i => (.int .i64 k, .int .i64 ((i : Nat) : Int), i) :: mapI r (i + 1)
theorem mapI_length : ∀ (l : List Int) (i : Nat), (mapI l i).length = l.length
  | [], _ => rfl
  | k :: r, i => by simp [mapI, mapI_length r]
theorem mapI_snoc : ∀ (l : List Int) (i : Nat) (k : Int), mapI (l ++ [k]) i = mapI l i ++ [(.int .i64 k, .int .i64 ((i + l.length : Nat) : Int), i + l.length)]
  | [], i, k => by simp [mapI]
  | x :: r, i, k => by
    simp only [List.cons_append, mapI, mapI_snoc r, List.length_cons]
    rw [show i + 1 + r.length = i + (r.length + 1) by omega]
theorem flatInt (a b : Int) : flatEq (.one .int) (.int .i64 a) (.int .i64 b) = some (decide (a = b)) := by
  show some (Int.beqF a b) = _
  rw [beqF_eq]
theorem findK_mapI (k : Int) : ∀ (l : List Int) (i j : Nat), findK (.one .int) (.int .i64 k) (mapI l i) j = some (if k ∈ l then some (j + l.idxOf k, .int .i64 ((i + l.idxOf k : Nat) : Int), i + l.idxOf k) else none)
  | [], i, j => by simp [mapI, findK]
  | x :: r, i, j => by
    simp only [mapI, findK, flatInt]
    by_cases e : k = x
    · subst e
      simp
    · have ih := findK_mapI k r (i + 1) (j + 1)
      rw [decide_eq_false e]
      simp only []
      rw [show Nat.succ j = j + 1 from rfl, ih]
      have hx : ¬ x = k := fun h => e h.symm
      by_cases hm : k ∈ r
      · rw [if_pos hm, if_pos (List.mem_cons_of_mem _ hm), List.idxOf_cons]
        have hb : (x == k) = false := by simp [hx]
        rw [hb]
        simp only [cond_false]
        rw [show j + 1 + r.idxOf k = j + (r.idxOf k + 1) by omega, show i + 1 + r.idxOf k = i + (r.idxOf k + 1) by omega]
      · rw [if_neg hm, if_neg (by simp [e, hm])]

def Item.numI (A : Nat) (l : List Int) : Item := ⟨[A], fun s => A < s.nextId ∧ s.obj A = some (.map (mapI l 0) l.length),
  fun {s s'} h1 h2 ⟨h3, h4⟩ => ⟨Nat.lt_of_lt_of_le h3 h1, by rw [h2 A (List.mem_singleton.2 rfl)]; exact h4⟩,
  fun {s} h B hB => by rw [List.mem_singleton] at hB; subst hB; exact h.1⟩
theorem mapOf_numI {A : Nat} {l : List Int} (h : (Item.numI A l).ok s) : s.mapOf A = some (mapI l 0, l.length) := by
  obtain ⟨h1, h2⟩ := h
  cases s with | mk hp nx ep =>
  simp only [St.obj] at h2
  simp only [St.mapOf, h2]
theorem Wo.mkMapI {d : Nat} {r : List CE} (H : Hs N s0 s L) (K : ∀ s', Hs N s0 s' (L ++ [Item.numI s.nextId []]) → s'.nextId = s.nextId + 1 → Wo prog r (upd ρ d (.map (some s.nextId))) s' Q) : Wo prog (⟨some d, .mkMap, none⟩ :: r) ρ s Q := by
  refine Wo.op (s' := (s.new (.map [] 0)).2) (fun t ht => ?_) (K _ (H.add new_chg ⟨by rw [next_new]; omega, by rw [obj_new, if_pos rfl]; rfl⟩ (fun B hB => by rw [List.mem_singleton.1 hB]; exact Nat.le_refl _)) (next_new _ _))
  simp only [doOp]
  rw [show s.new (.map [] 0) = ((s.new (.map [] 0)).1, (s.new (.map [] 0)).2) from rfl, id_new]
theorem beq_instI : (instBEqOfDecidableEq : BEq Int) = instBEqOfDecidableEq := rfl
section
variable {m k v : Opd} {A : Nat} {l : List Int} {key : Int}
theorem Step.lookupI (H : Hs N s0 s L) (i : Nat) (hm : m.evE ρ = .map (some A)) (hi : L[i]? = some (Item.numI A l)) (hk : k.evE ρ = .int .i64 key) : Step ρ s (.lookup (.one .int) (.int .i64 (.ofNat 0)) true m k) (.tuple ⟨[.int .i64 (if key ∈ l then ((l.idxOf key : Nat) : Int) else 0), .bool (decide (key ∈ l))]⟩) s := by
  intro t ht
  by_cases hin : key ∈ l
  · have h1 : mapGet s (.one .int) (.map (some A)) (.int .i64 key) = some (some (l.idxOf key, .int .i64 ((l.idxOf key : Nat) : Int), l.idxOf key)) := by
      simp only [mapGet, mapOf_numI (H.ok i _ hi), flatInt, decide_true, findK_mapI, if_pos hin, Nat.zero_add]
    rw [if_pos hin, decide_eq_true hin]
    simp only [doOp, ht.ev, hm, hk, h1]
  · have h1 : mapGet s (.one .int) (.map (some A)) (.int .i64 key) = some none := by
      simp only [mapGet, mapOf_numI (H.ok i _ hi), flatInt, decide_true, findK_mapI, if_neg hin]
    rw [if_neg hin, decide_eq_false hin]
    simp only [doOp, ht.ev, hm, hk, h1]; rfl
theorem Step.lenMapI (H : Hs N s0 s L) (i : Nat) (hm : m.evE ρ = .map (some A)) (hi : L[i]? = some (Item.numI A l)) : Step ρ s (.lenMap m) (.int .i64 ((l.length : Nat) : Int)) s := by
  intro t ht
  simp only [doOp, ht.ev, hm, mapOf_numI (H.ok i _ hi), len_eq, mapI_length, Nat.add_zero]; rfl
theorem Wo.mapNewI {r : List CE} {n : Int} (H : Hs N s0 s L) (i : Nat) (hm : m.evE ρ = .map (some A)) (hi : L[i]? = some (Item.numI A l)) (hk : k.evE ρ = .int .i64 key) (hv : v.evE ρ = .int .i64 n) (hn : n = l.length) (hin : key ∉ l)
    (K : ∀ s', Hs N s0 s' (L.set i (Item.numI A (l ++ [key]))) → s'.nextId = s.nextId → Wo prog r ρ s' Q) : Wo prog (⟨none, .mapSet (.one .int) m k v, none⟩ :: r) ρ s Q := by
  have hok := H.ok i _ hi
  obtain ⟨o1, o2⟩ := id hok
  have hne : mapSetF s (.one .int) (.map (some A)) (.int .i64 key) (.int .i64 n) = some (s.setObj A (.map (mapI (l ++ [key]) 0) (l ++ [key]).length)) := by
    simp only [mapSetF, mapOf_numI hok, flatInt, decide_true, findK_mapI, if_neg hin, snocF_eq, mapI_snoc, Nat.zero_add, List.length_append, List.length_singleton]
    subst hn; rfl
  refine Wo.op0 (v := undefV) (s' := s.setObj A (.map (mapI (l ++ [key]) 0) (l ++ [key]).length)) (fun t ht => by simp only [doOp, ht.ev, hm, hk, hv, hne]) (K _ (H.upd hi (M := fun B => B = A) ?_ (fun B hB => List.mem_singleton.2 hB) ?_ (fun B hB => .inl hB)) ?_)
  · cases s with | mk hp nx ep =>
    refine ⟨Nat.le_refl _, fun B hB hM => ?_⟩
    simp only [St.setObj, St.obj, T.get_set, if_neg hM]
  · cases s with | mk hp nx ep =>
    exact ⟨o1, by simp only [St.setObj, St.obj, T.get_set, if_true]⟩
  · cases s; rfl
end

/-! ### what is built on the way in a region that draws -/

def Item.raw (A : Nat) (o : AObj) : Item := ⟨[A], fun s => A < s.nextId ∧ s.obj A = some o,
  fun {s s'} h1 h2 ⟨h3, h4⟩ => ⟨Nat.lt_of_lt_of_le h3 h1, by rw [h2 A (List.mem_singleton.2 rfl)]; exact h4⟩,
  fun {s} h B hB => by rw [List.mem_singleton] at hB; subst hB; exact h.1⟩
theorem objEq_row {e z : Nat} {cs : List Value} (h : veqs cs cs = true) : objEq (.row e z cs none none) (.row e z cs none none) = true := by
  simp only [objEq, Nat.beq_refl, optBeq, h]
theorem veqs_one {v : Value} (h : veq v v = true) : veqs [v] [v] = true := by simp only [veqs, h]
theorem Hs.again (H : Hs N s0 s L) (j : Nat) {A e z : Nat} {cs : List Value} (hj : L[j]? = some (Item.raw A (.row e z cs none none))) (h : veqs cs cs = true) : ∃ ob', s.obj A = some ob' ∧ objEq (.row e z cs none none) ob' = true := ⟨_, (H.ok j _ hj).2, objEq_row h⟩
theorem Hs.rawown (H : Hs N s0 s L) (j : Nat) {A e z : Nat} {cs : List Value} (hj : L[j]? = some (Item.raw A (.row e z cs none none))) : Own s A z cs := ⟨(H.ok j _ hj).1, e, none, (H.ok j _ hj).2⟩

theorem Wd.buildSH {d e z n kk hi : Nat} {cs cs' : List Value} {ps : List (Nat × Opd)} {r : List (CE × Nat)} {HH : Nat → St → Prop} (H : Hs N s0 s L) (h : Fill ρ cs (offs z ps) cs') (hH : ∀ s', Pur s s' → HH kk s')
    (K : ∀ s', Pur s s' → Hs N s0 s' (L ++ [Item.raw s.nextId (.row e z cs' none none)]) → s'.nextId = s.nextId + 1 → Wd prog r kk (fun k' s2 => (k' ≤ hi → ∃ ob', s2.obj s.nextId = some ob' ∧ objEq (.row e z cs' none none) ob' = true) ∧ HH k' s2) (upd ρ d (.slice (some ⟨s.nextId, 0, none⟩) n n)) s' Q) :
    Wd prog ((⟨some d, .buildSlice e z n cs ps, none⟩, hi) :: r) kk HH ρ s Q := by
  have hob : (s.new (.row e z cs' none none)).2.obj s.nextId = some (.row e z cs' none none) := by rw [obj_new, if_pos rfl]
  exact Wd.make rfl (Step.buildSlice fun t ht => by rw [partsS_eq]; exact h.ok ht) hob (hH _ new_chg)
    (K _ new_chg (H.add new_chg ⟨by rw [next_new]; omega, hob⟩ (fun B hB => by rw [List.mem_singleton.1 hB]; exact Nat.le_refl _)) (next_new _ _))

/-- append of a row built on the way to a list. -/
theorem Wd.appG {d e e2 bytes kk hi A : Nat} {x y : Opd} {v w : Value} {cells : List Value} {r : List (CE × Nat)} {HH : Nat → St → Prop} (H : Hs N s0 s L) (i j : Nat) (hx : x.evE ρ = v) (hi' : L[i]? = some (Item.lst 1 v cells)) (hy : y.evE ρ = .slice (some ⟨A, 0, none⟩) 1 1) (hj : L[j]? = some (Item.raw A (.row e2 1 [w] none none))) (h1 : ones [w] = true)
    (hb : 2 * (cells.length + 1) * bytes ≤ 281474976710656 ∧ cells.length + 1 ≤ 281474976710656)
    (K : ∀ v' s', Hs N s0 s' (L.set i (Item.lst 1 v' (cells ++ [w]))) → s'.nextId = s.nextId + 1 → HH (kk + 1) s' ∧ Wd prog r (kk + 1) HH (upd ρ d v') s' Q) :
    Wd prog ((⟨some d, .append e 1 bytes x y, none⟩, hi) :: r) kk HH ρ s Q := by
  obtain ⟨v', s', e1, e2, e3, e4, e5⟩ := Lsv.app (e := e) (bytes := bytes) (P := fun _ => True) (H.lsv i hi') (Sl.of_own (n := 1) (H.rawown j hj) trivial (by simp)) (by omega) (by omega) h1 (by simpa using hb)
  obtain ⟨k1, k2⟩ := K v' s' (H.upd hi' e4 (fun B hB => hB) e2 (fun B hB => by have hB' : B ∈ blks v' := hB; rw [e3, List.mem_singleton] at hB'; omega)) e5
  exact Wd.eff rfl (fun t ht => by simp only [doOp, ht.ev, hx, hy, e1]) k1 k2

theorem Wd.appGI {d e e2 bytes kk hi A : Nat} {x y : Opd} {v : Value} {xs : List Int} {n : Int} {r : List (CE × Nat)} {HH : Nat → St → Prop} (H : Hs N s0 s L) (i j : Nat) (hx : x.evE ρ = v) (hi' : L[i]? = some (Item.lst 1 v (enI xs))) (hy : y.evE ρ = .slice (some ⟨A, 0, none⟩) 1 1) (hj : L[j]? = some (Item.raw A (.row e2 1 [.int .i64 n] none none)))
    (hb : 2 * (xs.length + 1) * bytes ≤ 281474976710656 ∧ xs.length + 1 ≤ 281474976710656)
    (K : ∀ v' s', Hs N s0 s' (L.set i (Item.lst 1 v' (enI (xs ++ [n])))) → s'.nextId = s.nextId + 1 → HH (kk + 1) s' ∧ Wd prog r (kk + 1) HH (upd ρ d v') s' Q) :
    Wd prog ((⟨some d, .append e 1 bytes x y, none⟩, hi) :: r) kk HH ρ s Q :=
  Wd.appG H i j hx hi' hy hj rfl (by simpa using hb) fun v' s' h => K v' s' (by rw [enI_snoc] at h; exact h)
theorem Wd.appGB {d e e2 bytes kk hi A : Nat} {x y : Opd} {v : Value} {xs : List Bool} {n : Bool} {r : List (CE × Nat)} {HH : Nat → St → Prop} (H : Hs N s0 s L) (i j : Nat) (hx : x.evE ρ = v) (hi' : L[i]? = some (Item.lst 1 v (enB xs))) (hy : y.evE ρ = .slice (some ⟨A, 0, none⟩) 1 1) (hj : L[j]? = some (Item.raw A (.row e2 1 [.bool n] none none)))
    (hb : 2 * (xs.length + 1) * bytes ≤ 281474976710656 ∧ xs.length + 1 ≤ 281474976710656)
    (K : ∀ v' s', Hs N s0 s' (L.set i (Item.lst 1 v' (enB (xs ++ [n])))) → s'.nextId = s.nextId + 1 → HH (kk + 1) s' ∧ Wd prog r (kk + 1) HH (upd ρ d v') s' Q) :
    Wd prog ((⟨some d, .append e 1 bytes x y, none⟩, hi) :: r) kk HH ρ s Q :=
  Wd.appG H i j hx hi' hy hj rfl (by simpa using hb) fun v' s' h => K v' s' (by rw [enB_snoc] at h; exact h)

/-- append of a row (of rows) built on the way to a list of rows. -/
theorem Wd.appGR {d e e2 bytes kk hi A : Nat} {x y : Opd} {v u : Value} {vs : List Value} {R : List (List Int)} {F : List Nat} {row : List Int} {r : List (CE × Nat)} {HH : Nat → St → Prop} (H : Hs N s0 s L) (i j q : Nat) (hij : i ≠ q) (hx : x.evE ρ = v) (hi' : L[i]? = some (Item.rows v vs R F)) (hrow : IsInts s (fun B => B ∈ blks u) u row) (hy : y.evE ρ = .slice (some ⟨A, 0, none⟩) 1 1) (hj : L[j]? = some (Item.raw A (.row e2 1 [u] none none))) {w : Item} (hq : L[q]? = some w) (hw : w.fp = blks u)
    (hb : 2 * (R.length + 1) * bytes ≤ 281474976710656 ∧ R.length + 1 ≤ 281474976710656)
    (K : ∀ v' s' F', Hs N s0 s' ((L.set i (Item.rows v' (vs ++ [u]) (R ++ [row]) F')).set q Item.emp) → s'.nextId = s.nextId + 1 → HH (kk + 1) s' ∧ Wd prog r (kk + 1) HH (upd ρ d v') s' Q) :
    Wd prog ((⟨some d, .append e 1 bytes x y, none⟩, hi) :: r) kk HH ρ s Q := by
  have hR := H.rws i hi'
  obtain ⟨a1, a2, a3, _, _⟩ := id hR
  obtain ⟨v', s', e1, k1, e3, c, e5⟩ := Lsv.app (e := e) (bytes := bytes) (P := fun _ => True) a1 (Sl.of_own (n := 1) (H.rawown j hj) trivial (by simp)) (by omega) (by omega) hrow.one (by rw [a2]; simpa using hb)
  have hju : ∀ B, B ∈ blks u → B < s.nextId ∧ B ∉ blks v := fun B hB => by
    rw [← hw] at hB
    exact ⟨w.lt (H.ok q w hq) B hB, fun hn => H.dj q i w _ (fun e => hij e.symm) hq hi' B hB (hR.own B hn)⟩
  obtain ⟨k1', k2'⟩ := K v' s' (s.nextId :: blks u ++ F) (H.merge hij hi' hq c (fun B hB => .inl (hR.own B hB)) (Rws.push a3 a2 k1 e3 (by omega) hR.lt hrow hju c) fun B hB => by
    have hB' : B ∈ s.nextId :: blks u ++ F := hB
    simp only [List.cons_append, List.mem_cons, List.mem_append] at hB'
    rcases hB' with rfl | h | h
    · exact .inr (.inr (by omega))
    · exact .inr (.inl (by rw [hw]; exact h))
    · exact .inl h) e5
  exact Wd.eff rfl (fun t ht => by simp only [doOp, ht.ev, hx, hy, e1]) k1' k2'

theorem Wd.setI {A m c d hi1 hi2 kk : Nat} {xs : List Int} {n i : Int} {k : IntKind} {b x y : Opd} {r : List (CE × Nat)} {HH : Nat → St → Prop} (H : Hs N s0 s L) (j : Nat) (hx : x.evE ρ = .slice (some ⟨A, 0, none⟩) m c) (hy : y.evE ρ = .int k i) (hj : L[j]? = some (Item.own A 1 (enI xs))) (h0 : 0 ≤ i) (him : i < m) (hml : m ≤ xs.length) (hv : b.evE ρ = .int .i64 n)
    (K : ∀ p s', Hs N s0 s' (L.set j (Item.own A 1 (enI (xs.set i.toNat n)))) → s'.nextId = s.nextId → HH (kk + 1) s' ∧ Wd prog r (kk + 1) HH (upd ρ d p) s' Q) (hbd : ∀ q, b = .t q → q ≠ d) : Wd prog ((⟨some d, .iaddr 1 x y, none⟩, hi1) :: (⟨none, .store 1 (.t d) b, none⟩, hi2) :: r) kk HH ρ s Q := by
  refine Wd.pure rfl (Step.iaddrO hx hy h0 him) ?_
  have hb : b.evE (upd ρ d (ptrV A (0 + i.toNat * 1))) = .int .i64 n := by
    cases b with
    | c w => exact hv
    | t q =>
      have := hbd q rfl
      have hf : Nat.beq q d = false := by
        cases hq : Nat.beq q d with
        | false => rfl
        | true => exact absurd (Nat.eq_of_beq_eq_true hq) this
      simp only [Opd.evE, upd, hf]; exact hv
  refine Wd.storeH H j (A := A) (o := 0 + i.toNat * 1) (by simp [Opd.evE, upd]) hj (vs := [.int .i64 n]) (by rw [hb]; rfl) rfl rfl (cs' := enI (xs.set i.toNat n)) (by rw [spl_one _ (by simp; omega), show 0 + i.toNat * 1 = i.toNat by omega, enI_set]) fun s' h2 h3 => ?_
  exact K _ s' h2 h3

/-! ### pieces, together -/

def Item.and (x y : Item) : Item := ⟨x.fp ++ y.fp, fun s => x.ok s ∧ y.ok s, fun h1 h2 h => ⟨x.st h1 (fun B hB => h2 B (List.mem_append_left _ hB)) h.1, y.st h1 (fun B hB => h2 B (List.mem_append_right _ hB)) h.2⟩,
  fun h B hB => by rcases List.mem_append.1 hB with hB | hB; exact x.lt h.1 B hB; exact y.lt h.2 B hB⟩
theorem Hs.both {x y : Item} (H : Hs N s0 s L) {i j : Nat} (hij : i ≠ j) (hi : L[i]? = some x) (hj : L[j]? = some y) : Hs N s0 s ((L.set i (Item.and x y)).set j Item.emp) :=
  H.merge hij hi hj (M := fun _ => False) (Chg.refl _) (fun _ h => h.elim) (z := Item.and x y) ⟨H.ok i x hi, H.ok j y hj⟩ fun B hB => by
    rcases List.mem_append.1 hB with hB | hB
    · exact .inl hB
    · exact .inr (.inl hB)
theorem Hs.addEmp (H : Hs N s0 s L) : Hs N s0 s (L ++ [Item.emp]) := H.add (Chg.refl _) trivial (fun B hB => by cases hB)
theorem New.cast {ys : List Item} (h : New s s' ys) {i : Nat} {x : Item} (hi : ys[i]? = some x) : x.ok s' := (h.2.1 i x hi).1
theorem own_ints {A n : Nat} {xs : List Int} (h : Own s A 1 (enI xs)) (hn : n = xs.length) : IsInts s (fun B => B < s.nextId) (.slice (some ⟨A, 0, none⟩) n n) xs := by
  subst hn
  exact Sl.of_own h h.1 (by simp)

/-! ### strings -/

theorem Step.sadd {x y : Opd} {a b : List UInt8} (hx : x.evE ρ = .string ⟨⟨a⟩⟩) (hy : y.evE ρ = .string ⟨⟨b⟩⟩) (h : a.length + b.length ≤ 9223372036854775807) : Step ρ s (.bin .add x y) (.string ⟨⟨a ++ b⟩⟩) s := by
  intro t ht
  have hb : Nat.ble (len a 0 + len b 0) 9223372036854775807 = true := Nat.ble_eq_true_of_le (by rw [len_eq, len_eq]; omega)
  have : binF .add (.string ⟨⟨a⟩⟩) (.string ⟨⟨b⟩⟩) = some (.string ⟨⟨a ++ b⟩⟩) := by
    show binStr .add a b = _
    simp only [binStr, hb, app_eq]; rfl
  simp only [doOp, ht.ev, hx, hy, this]
theorem Wd.appGS {d e e2 bytes kk hi A : Nat} {x y : Opd} {v : Value} {xs : List (List UInt8)} {n : List UInt8} {r : List (CE × Nat)} {HH : Nat → St → Prop} (H : Hs N s0 s L) (i j : Nat) (hx : x.evE ρ = v) (hi' : L[i]? = some (Item.lst 1 v (enS xs))) (hy : y.evE ρ = .slice (some ⟨A, 0, none⟩) 1 1) (hj : L[j]? = some (Item.raw A (.row e2 1 [.string ⟨⟨n⟩⟩] none none)))
    (hb : 2 * (xs.length + 1) * bytes ≤ 281474976710656 ∧ xs.length + 1 ≤ 281474976710656)
    (K : ∀ v' s', Hs N s0 s' (L.set i (Item.lst 1 v' (enS (xs ++ [n])))) → s'.nextId = s.nextId + 1 → HH (kk + 1) s' ∧ Wd prog r (kk + 1) HH (upd ρ d v') s' Q) :
    Wd prog ((⟨some d, .append e 1 bytes x y, none⟩, hi) :: r) kk HH ρ s Q :=
  Wd.appG H i j hx hi' hy hj rfl (by simpa using hb) fun v' s' h => K v' s' (by rw [enS_snoc] at h; exact h)
theorem Hs.strs (H : Hs N s0 s L) (i : Nat) {v : Value} {xs : List (List UInt8)} (hi : L[i]? = some (Item.lst 1 v (enS xs))) : IsStrs s (fun B => B ∈ blks v) v xs := (H.lsv i hi).sl (by omega) (by simp)
theorem Hs.rawbytes (H : Hs N s0 s L) (j : Nat) {A e : Nat} {xs : List UInt8} (hj : L[j]? = some (Item.raw A (.row e 1 (enU xs) none none))) : IsBytes s (fun B => B = A) (.slice (some ⟨A, 0, none⟩) xs.length xs.length) xs := Sl.of_own (H.rawown j hj) rfl (by simp)
theorem Wd.idxS {xs : List (List UInt8)} {d1 d2 hi1 hi2 kk : Nat} {HH : Nat → St → Prop} {v : Value} {i : Int} {k : IntKind} {x y : Opd} {r : List (CE × Nat)} (hx : x.evE ρ = v) (h : IsStrs s P v xs) (hy : y.evE ρ = .int k i) (h0 : 0 ≤ i) (hi : i < xs.length) (K : ∀ p, Wd prog r kk (fun k' s' => (k' ≤ hi2 → IsStrs s' P v xs) ∧ HH k' s') (upd (upd ρ d1 p) d2 (.string ⟨⟨gets xs i⟩⟩)) s Q) :
    Wd prog ((⟨some d1, .iaddr 1 x y, none⟩, hi1) :: (⟨some d2, .load (.t d1), none⟩, hi2) :: r) kk HH ρ s Q := Wd.idx hx h hy h0 (get_map _ [] h0 hi) (veq_str _) K
end
end Go.EvW
end

section
set_option linter.unusedVariables false
namespace Go.EvW
open Go Go.Ev _root_.Ev
section
variable {s : St} {prog : Nat → Option CFunc} {ρ : Env} {Q : Env → St → Prop}
theorem wanted_undef {t : T Value} (ht : Agree t ρ) {j : Nat} {w : Bool} (h : ρ j = undefV) : wanted t (some (j, w)) = false := by
  have := ht j
  rw [h] at this
  simp only [Opd.ev] at this
  simp only [wanted]
  cases hg : t.get j with
  | none => rfl
  | some v => rw [hg] at this; simp at this; subst this; rfl
theorem Wo.offU {d : Nat} {o : COp} {j : Nat} {w : Bool} {r : List CE} (h : ρ j = undefV) (k : Wo prog r (upd ρ d undefV) s Q) : Wo prog (⟨some d, o, some (j, w)⟩ :: r) ρ s Q := by
  intro t ht
  obtain ⟨n, t', s', ρ', h1, h2, h3⟩ := k _ (ht.put (some d) undefV)
  refine ⟨n, t', s', ρ', ?_, h2, h3⟩
  simp only [runOps, wanted_undef ht h, forceT_eq]
  exact h1
theorem Step.seql {x y : Opd} {a b : List UInt8} (hx : x.evE ρ = .string ⟨⟨a⟩⟩) (hy : y.evE ρ = .string ⟨⟨b⟩⟩) : Step ρ s (.bin .eql x y) (.bool (decide (a = b))) s := by
  intro t ht
  have : binF .eql (.string ⟨⟨a⟩⟩) (.string ⟨⟨b⟩⟩) = some (.bool (decide (a = b))) := by
    show binStr .eql a b = _
    simp only [binStr, beqBytes_eq]
  simp only [doOp, ht.ev, hx, hy, this]
variable {N : Nat} {s0 : St} {L : List Item} {x y b : Opd} {d : Nat} {i : Int} {k : IntKind} {r : List CE}
theorem Wo.setU {A m c : Nat} {xs : List UInt8} {n : UInt8} (H : Hs N s0 s L) (j : Nat) (hx : x.evE ρ = .slice (some ⟨A, 0, none⟩) m c) (hy : y.evE ρ = .int k i) (hj : L[j]? = some (Item.own A 1 (enU xs))) (h0 : 0 ≤ i) (him : i < m) (hml : m ≤ xs.length) (hv : b.evE ρ = .int .u8 ((n.toNat : Nat) : Int))
    (K : ∀ p s', Hs N s0 s' (L.set j (Item.own A 1 (enU (xs.set i.toNat n)))) → s'.nextId = s.nextId → Wo prog r (upd ρ d p) s' Q) (hbd : ∀ q, b = .t q → q ≠ d) : Wo prog (⟨some d, .iaddr 1 x y, none⟩ :: ⟨none, .store 1 (.t d) b, none⟩ :: r) ρ s Q :=
  Wo.setH H j hx hy hj h0 him (by simpa using hml) hv rfl (fun p s' h => K p s' (by rw [enU_set] at h; exact h)) hbd
theorem Hs.urow (H : Hs N s0 s L) (i : Nat) {A n : Nat} {xs : List UInt8} (hi : L[i]? = some (Item.own A 1 (enU xs))) (hn : n = xs.length) : IsBytes s (fun B => B ∈ blks (.slice (some ⟨A, 0, none⟩) n n)) (.slice (some ⟨A, 0, none⟩) n n) xs := by
  subst hn
  exact (Sl.of_own (P := fun B => B = A) (H.own i hi) rfl (by simp)).mono fun B _ hB => List.mem_singleton.2 hB
end
end Go.EvW
end

section
set_option linter.unusedVariables false
namespace Go.EvW
open Go Go.Ev _root_.Ev Go.RowKit Go.ChangeShapes Go.WideShapes

/-- One more row of an argument, whose items may lie elsewhere. -/
theorem _root_.Go.Ev.WR.inputZ {base : Nat} {w : World} {β : Bl} {s : St} (hw : WR base w β s w) (hb : base = w.heap.size) {x : Addr} {len cap z : Nat} {as vs : List Value} (hz : 0 < z) (hlc : len ≤ cap) (hal : as.length = len * z) (hvl : vs.length = cap * z)
    (hcell : ∀ i v, vs[i]? = some v → w.cell? (x.add i) = some v) (hrel : VRs β as (vs.take (len * z))) :
    ∃ β' s' v, WR base w β' s' w ∧ β.le β' ∧ VR β' v (.slice (some x) len cap) ∧ Pur s s' ∧ Sl s' (fun A => A < s'.nextId) z v len as := by
  have hs1 : Row (s.new (.row 0 z as none (some 0))).2 s.nextId z as := ⟨by rw [next_new]; omega, 0, none, some 0, by rw [obj_new, if_pos rfl], .inr rfl⟩
  have hsl : ∀ c, len ≤ c → Sl (s.new (.row 0 z as none (some 0))).2 (fun A => A < (s.new (.row 0 z as none (some 0))).2.nextId) z (.slice (some ⟨s.nextId, 0, none⟩) len c) len as := fun c hc =>
    ⟨_, c, rfl, hc, hal, .inr ⟨s.nextId, 0, _, rfl, by rw [next_new]; omega, hs1, by omega, by rw [List.drop_zero, ← hal, List.take_length]⟩⟩
  have heldn : ∀ A e z' cs g k, (s.new (.row 0 z as none (some 0))).2.obj A = some (.row e z' cs (some g) (some k)) → k ≤ epAt (s.new (.row 0 z as none (some 0))).2.eps g := by
    intro A e z' cs g k ho
    rw [obj_new] at ho
    rw [eps_new]
    by_cases e : A = s.nextId
    · rw [if_pos e] at ho; cases ho
    · rw [if_neg e] at ho; exact hw.eld _ _ _ _ _ _ ho
  have hfresh : ∀ A, (s.new (.row 0 z as none (some 0))).2.nextId ≤ A → (s.new (.row 0 z as none (some 0))).2.obj A = none := fun A hA => by
    rw [next_new] at hA
    rw [obj_new, if_neg (by omega)]
    exact hw.fresh A (by omega)
  by_cases hc0 : cap = 0
  · subst hc0
    obtain rfl : len = 0 := by omega
    refine ⟨β, (s.new (.row 0 z as none (some 0))).2, .slice (some ⟨s.nextId, 0, none⟩) 0 0, ⟨hw.below, hw.hb, fun A p hA => ?_, fun A p o hA ho => ?_, hfresh, heldn, fun A p o hA ho hm => ?_⟩, Bl.le_refl _, .sliceE _ _ _, new_chg, hsl 0 (by omega)⟩
    · obtain ⟨h1, h2, o, h3⟩ := hw.dom A p hA
      refine ⟨by rw [next_new]; omega, h2, o, ?_⟩
      rw [obj_new, if_neg (by omega)]; exact h3
    · rw [obj_new, if_neg (by have := (hw.dom A p hA).1; omega)] at ho
      rw [eps_new]
      exact hw.rel A p o hA ho
    · rw [obj_new, if_neg (by have := (hw.dom A p hA).1; omega)] at ho
      obtain ⟨k1, k2⟩ := hw.own A p o hA ho hm
      refine ⟨k1, fun A' p' o' hne hA' hbb ho' => ?_⟩
      rw [obj_new, if_neg (by have := (hw.dom A' p' hA').1; omega)] at ho'
      rw [eps_new]
      exact k2 A' p' o' hne hA' hbb ho'
  · have hcz : 0 < cap * z := Nat.mul_pos (by omega) hz
    have hlcz : len * z ≤ cap * z := Nat.mul_le_mul_right _ hlc
    obtain ⟨v0, hv0⟩ : ∃ v0, vs[0]? = some v0 := ⟨vs[0]'(by omega), List.getElem?_eq_getElem (by omega)⟩
    obtain ⟨vl, hvl'⟩ : ∃ vl, vs[cap * z - 1]? = some vl := ⟨vs[cap * z - 1]'(by omega), List.getElem?_eq_getElem (by omega)⟩
    have hc0' := hcell 0 v0 hv0
    obtain ⟨hspot, _⟩ := cell_plain (x := x) (by simpa [Addr.add] using hc0')
    have hadd := addr_add_spot hspot
    obtain ⟨_, c, el, fz, hblk, _⟩ := cell_plain (by rw [hadd] at hc0'; exact hc0')
    simp only at hblk
    have hget : ∀ i v, vs[i]? = some v → c[x.off + i]? = some v := fun i v hv => by
      obtain ⟨_, c', el', fz', hblk', h'⟩ := cell_plain (by have := hcell i v hv; rw [hadd] at this; exact this)
      simp only at hblk' h'
      rw [hblk] at hblk'
      cases hblk'
      exact h'
    have hend : x.off + cap * z ≤ c.size := by
      have h1 := hget _ _ hvl'
      have := (Array.getElem?_eq_some_iff.1 h1).1
      omega
    have hlt : x.block < w.heap.size := (Array.getElem?_eq_some_iff.1 hblk).1
    let p : Pl := ⟨x.block, x.off, c.size, z⟩
    have hle := hw.le_add p
    have hold : ∀ A, A ≠ s.nextId → (β.add s.nextId p) A = β A := fun A hA => by simp [Bl.add, hA]
    have hnew : (β.add s.nextId p) s.nextId = some p := by simp [Bl.add]
    refine ⟨β.add s.nextId p, (s.new (.row 0 z as none (some 0))).2, .slice (some ⟨s.nextId, 0, none⟩) len len, ⟨hw.below, hw.hb, fun A q hA => ?_, fun A q o hA ho => ?_, hfresh, heldn, fun A q o hA ho hm => ?_⟩, hle, ?_, new_chg, hsl len (by omega)⟩
    · rw [next_new, obj_new]
      by_cases e : A = s.nextId
      · subst e; rw [hnew] at hA; cases hA; exact ⟨by omega, hlt, _, by rw [if_pos rfl]⟩
      · rw [hold A e] at hA
        obtain ⟨h1, h2, o', h3⟩ := hw.dom A q hA
        exact ⟨by omega, h2, o', by rw [if_neg e]; exact h3⟩
    · rw [obj_new] at ho
      rw [eps_new]
      by_cases e : A = s.nextId
      · subst e; rw [hnew] at hA; cases hA
        simp at ho; subst ho
        refine ⟨rfl, fun _ => ⟨c, el, fz, hblk, rfl, by show x.off + as.length ≤ c.size; omega, fun i v hv => ?_, fun h => by cases h⟩⟩
        obtain ⟨v', h1, h2⟩ := (VRs.mono hle hrel).get hv
        rw [List.getElem?_take] at h1
        split at h1
        · exact ⟨v', hget i v' h1, h2⟩
        · cases h1
      · rw [hold A e] at hA
        simp [e] at ho
        exact (hw.rel A q o hA ho).mono hle
    · rw [obj_new] at ho
      by_cases e : A = s.nextId
      · subst e; simp at ho; subst ho; cases hm
      · rw [hold A e] at hA
        simp [e] at ho
        obtain ⟨k1, k2⟩ := hw.own A q o hA ho hm
        refine ⟨k1, fun A' p' o' hne hA' hbb ho' => ?_⟩
        rw [obj_new] at ho'
        rw [eps_new]
        by_cases e' : A' = s.nextId
        · subst e'; rw [hnew] at hA'; cases hA'
          exfalso
          have : x.block = q.b := hbb
          omega
        · rw [hold A' e'] at hA'
          simp [e'] at ho'
          exact k2 A' p' o' hne hA' hbb ho'
    · obtain ⟨b, o, sp⟩ := x
      simp only at hspot
      subst hspot
      have := VR.slice (β := β.add s.nextId p) s.nextId p 0 len len cap hnew (Nat.le_refl _) hlc (by show o + 0 + cap * z ≤ c.size; simp only at hend; omega)
      simpa [p] using this

/-- How values of a kind lie in cells: here, and in a world. -/
structure Rep (α : Type) where
  z : Nat
  hz : 0 < z
  ok : St → (Nat → Prop) → List Value → α → Prop
  inw : World → List Value → α → Prop
  len : ∀ {s P c a}, ok s P c a → c.length = z
  lenw : ∀ {w c a}, inw w c a → c.length = z
  chg : ∀ {s s' : St} {P M : Nat → Prop} {c a}, ok s P c a → Chg M s s' → (∀ A, P A → ¬ M A) → ok s' P c a
  mono : ∀ {s : St} {P P' : Nat → Prop} {c a}, ok s P c a → (∀ A, A < s.nextId → P A → P' A) → ok s P' c a
  put : ∀ {base : Nat} {w : World} {β : Bl} {s : St} {c : List Value} {a : α}, WR base w β s w → base = w.heap.size → inw w c a →
    ∃ β' s' c', WR base w β' s' w ∧ β.le β' ∧ VRs β' c' c ∧ Pur s s' ∧ ok s' (fun A => A < s'.nextId) c' a

theorem Rep.lift {α : Type} (r : Rep α) {s s' : St} {c : List Value} {a : α} (h : r.ok s (fun A => A < s.nextId) c a) (k : Pur s s') : r.ok s' (fun A => A < s'.nextId) c a :=
  r.mono (r.chg h k (fun _ _ h => h)) fun A _ hA => Nat.lt_of_lt_of_le hA k.1

def Rep.int : Rep Int where
  z := 1
  hz := by omega
  ok _ _ c n := c = [.int .i64 n] ∧ Co.I64 n
  inw _ c n := c = [.int .i64 n] ∧ Co.I64 n
  len h := by rw [h.1]; rfl
  lenw h := by rw [h.1]; rfl
  chg h _ _ := h
  mono h _ := h
  put hw hb h := ⟨_, _, _, hw, Bl.le_refl _, by rw [h.1]; exact .cons _ _ _ _ (.int _ _) .nil, Chg.refl _, rfl, h.2⟩

def Rep.bool : Rep Bool where
  z := 1
  hz := by omega
  ok _ _ c n := c = [.bool n]
  inw _ c n := c = [.bool n]
  len h := by rw [h]; rfl
  lenw h := by rw [h]; rfl
  chg h _ _ := h
  mono h _ := h
  put hw hb h := ⟨_, _, _, hw, Bl.le_refl _, by rw [h]; exact .cons _ _ _ _ (.bool _) .nil, Chg.refl _, rfl⟩

def Rep.str : Rep (List UInt8) where
  z := 1
  hz := by omega
  ok _ _ c n := c = [.string ⟨⟨n⟩⟩] ∧ n.length ≤ reachBytes
  inw _ c n := c = [.string ⟨⟨n⟩⟩] ∧ n.length ≤ reachBytes
  len h := by rw [h.1]; rfl
  lenw h := by rw [h.1]; rfl
  chg h _ _ := h
  mono h _ := h
  put hw hb h := ⟨_, _, _, hw, Bl.le_refl _, by rw [h.1]; exact .cons _ _ _ _ (.string _) .nil, Chg.refl _, rfl, h.2⟩

theorem VRs.app {β : Bl} : ∀ {a a' b b' : List Value}, VRs β a a' → VRs β b b' → VRs β (a ++ b) (a' ++ b')
  | _, _, _, _, .nil, h => h
  | _, _, _, _, .cons x x' xs xs' hx hs, h => .cons _ _ _ _ hx (VRs.app hs h)

def Rep.pair {α α' : Type} (r : Rep α) (r' : Rep α') : Rep (α × α') where
  z := r.z + r'.z
  hz := by have := r.hz; omega
  ok s P c x := ∃ c1 c2, c = c1 ++ c2 ∧ r.ok s P c1 x.1 ∧ r'.ok s P c2 x.2
  inw w c x := ∃ c1 c2, c = c1 ++ c2 ∧ r.inw w c1 x.1 ∧ r'.inw w c2 x.2
  len h := by obtain ⟨c1, c2, rfl, h1, h2⟩ := h; rw [List.length_append, r.len h1, r'.len h2]
  lenw h := by obtain ⟨c1, c2, rfl, h1, h2⟩ := h; rw [List.length_append, r.lenw h1, r'.lenw h2]
  chg h k hP := by obtain ⟨c1, c2, rfl, h1, h2⟩ := h; exact ⟨c1, c2, rfl, r.chg h1 k hP, r'.chg h2 k hP⟩
  mono h hP := by obtain ⟨c1, c2, rfl, h1, h2⟩ := h; exact ⟨c1, c2, rfl, r.mono h1 hP, r'.mono h2 hP⟩
  put hw hb h := by
    obtain ⟨c1, c2, rfl, h1, h2⟩ := h
    obtain ⟨β1, s1, c1', w1, l1, v1, p1, o1⟩ := r.put hw hb h1
    obtain ⟨β2, s2, c2', w2, l2, v2, p2, o2⟩ := r'.put w1 hb h2
    exact ⟨β2, s2, c1' ++ c2', w2, Bl.le_trans l1 l2, VRs.app (VRs.mono l2 v1) v2, p1.trans p2, c1', c2', rfl, r.lift o1 p2, o2⟩

theorem Rep.puts {α : Type} (r : Rep α) {base : Nat} {w : World} (hb : base = w.heap.size) : ∀ (css : List (List Value)) (xs : List α) {β : Bl} {s : St}, css.length = xs.length → (∀ (i : Nat) c x, css[i]? = some c → xs[i]? = some x → r.inw w c x) → WR base w β s w →
    ∃ (β' : Bl) (s' : St) (css' : List (List Value)), WR base w β' s' w ∧ β.le β' ∧ css'.length = xs.length ∧ VRs β' css'.flatten css.flatten ∧ Pur s s' ∧ ∀ (i : Nat) c x, css'[i]? = some c → xs[i]? = some x → r.ok s' (fun A => A < s'.nextId) c x
  | [], [], β, s, _, _, hw => ⟨β, s, [], hw, Bl.le_refl _, rfl, .nil, Chg.refl _, fun i c x h => by simp at h⟩
  | c :: css, x :: xs, β, s, hl, h, hw => by
    obtain ⟨β1, s1, c', w1, l1, v1, p1, o1⟩ := r.put hw hb (h 0 c x rfl rfl)
    obtain ⟨β2, s2, css', w2, l2, n2, v2, p2, o2⟩ := Rep.puts r hb css xs (by simpa using hl) (fun i c x hc hx => h (i + 1) c x (by simpa using hc) (by simpa using hx)) w1
    refine ⟨β2, s2, c' :: css', w2, Bl.le_trans l1 l2, by simp [n2], VRs.app (VRs.mono l2 v1) v2, p1.trans p2, fun i c x hc hx => ?_⟩
    cases i with
    | zero => simp at hc hx; subst hc hx; exact r.lift o1 p2
    | succ i => exact o2 i c x (by simpa using hc) (by simpa using hx)

theorem flat_len {α : Type} {z : Nat} : ∀ {css : List (List α)}, (∀ c, c ∈ css → c.length = z) → css.flatten.length = css.length * z
  | [], _ => by simp
  | c :: css, h => by
    rw [List.flatten_cons, List.length_append, h c (List.mem_cons_self ..), flat_len fun c hc => h c (List.mem_cons_of_mem _ hc), List.length_cons, Nat.add_mul]; omega
theorem flat_get {α : Type} {z : Nat} : ∀ {css : List (List α)}, (∀ c, c ∈ css → c.length = z) → ∀ i k, k < z → css.flatten[i * z + k]? = css[i]?.bind (·[k]?)
  | [], _, i, k, _ => by simp
  | c :: css, h, 0, k, hk => by
    have := h c (List.mem_cons_self ..)
    rw [List.flatten_cons, List.getElem?_append_left (by omega)]
    simp
  | c :: css, h, i + 1, k, hk => by
    have := h c (List.mem_cons_self ..)
    rw [List.flatten_cons, List.getElem?_append_right (by rw [this, Nat.add_mul]; omega), this, show (i + 1) * z + k - z = i * z + k by rw [Nat.add_mul]; omega, flat_get (fun c hc => h c (List.mem_cons_of_mem _ hc)) i k hk]
    simp

/-- A slice of such values. -/
def Rep.sl {α : Type} (r : Rep α) : Rep (List α) where
  z := 1
  hz := by omega
  ok s P c xs := ∃ (v : Value) (css : List (List Value)), c = [v] ∧ css.length = xs.length ∧ (∀ (i : Nat) c x, css[i]? = some c → xs[i]? = some x → r.ok s P c x) ∧ Sl s P r.z v xs.length css.flatten ∧ xs.length ≤ reachBytes
  inw w c xs := ∃ css : List (List Value), css.length = xs.length ∧ xs.length ≤ reachBytes ∧ (∀ (i : Nat) c x, css[i]? = some c → xs[i]? = some x → r.inw w c x) ∧
    ((c = [.slice none 0 0] ∧ xs = []) ∨ ∃ a cap rest, c = [.slice (some a) xs.length cap] ∧ xs.length ≤ cap ∧ (css.flatten ++ rest).length = cap * r.z ∧ ∀ (i : Nat) v, (css.flatten ++ rest)[i]? = some v → w.cell? (a.add i) = some v)
  len h := by obtain ⟨v, css, rfl, _⟩ := h; rfl
  lenw h := by obtain ⟨css, _, _, _, ⟨rfl, _⟩ | ⟨a, cap, rest, rfl, _⟩⟩ := h <;> rfl
  chg h k hP := by obtain ⟨v, css, rfl, h1, h2, h3, h4⟩ := h; exact ⟨v, css, rfl, h1, fun i c x hc hx => r.chg (h2 i c x hc hx) k hP, h3.chg k hP, h4⟩
  mono h hP := by obtain ⟨v, css, rfl, h1, h2, h3, h4⟩ := h; exact ⟨v, css, rfl, h1, fun i c x hc hx => r.mono (h2 i c x hc hx) hP, h3.mono hP, h4⟩
  put {base w β s c xs} hw hb h := by
    obtain ⟨css, h1, h2, h3, ⟨rfl, rfl⟩ | ⟨a, cap, rest, rfl, hlc, hl, hcell⟩⟩ := h
    · refine ⟨β, s, _, hw, Bl.le_refl _, .cons _ _ _ _ .sliceNil .nil, Chg.refl _, .slice none 0 0, [], rfl, rfl, fun i c x h => by simp at h, Sl.nil, by simp⟩
    · obtain ⟨β1, s1, css', w1, l1, n1, v1, p1, o1⟩ := Rep.puts r hb css xs h1 h3 hw
      have hall : ∀ c, c ∈ css' → c.length = r.z := fun c hc => by
        obtain ⟨i, hi⟩ := List.getElem?_of_mem hc
        have hil := (List.getElem?_eq_some_iff.1 hi).1
        exact r.len (o1 i c _ hi (List.getElem?_eq_getElem (by omega)))
      have hallc : ∀ c, c ∈ css → c.length = r.z := fun c hc => by
        obtain ⟨i, hi⟩ := List.getElem?_of_mem hc
        have hil := (List.getElem?_eq_some_iff.1 hi).1
        exact r.lenw (h3 i c _ hi (List.getElem?_eq_getElem (by omega)))
      have hfl : css'.flatten.length = xs.length * r.z := by rw [flat_len hall, n1]
      have hflc : css.flatten.length = xs.length * r.z := by rw [flat_len hallc, h1]
      obtain ⟨β2, s2, v, w2, l2, r2, p2, sl2⟩ := w1.inputZ hb (x := a) (len := xs.length) (cap := cap) (as := css'.flatten) (vs := css.flatten ++ rest) r.hz hlc hfl hl hcell (by rw [← hflc, List.take_left]; exact v1)
      exact ⟨β2, s2, [v], w2, Bl.le_trans l1 l2, .cons _ _ _ _ r2 .nil, p1.trans p2, v, css', rfl, n1, fun i c x hc hx => r.lift (o1 i c x hc hx) p2, sl2, h2⟩

/-! ### arguments opened -/

def Opens {α : Type} (r : Rep α) (P : Program) (t : TypeId) : Prop := ∀ (H : Type) (enc : TypeId × Value → H) (w : World) (base : Nat) (held : Bool) (fuel : Nat) (cs : List Value) (d : DataW H) (ps : List MemPlace),
  DataW.trod enc P w base (fun _ => true) held fuel t cs = some (d, ps) → (∀ n, n ∈ d.weights P t → n ≤ reachBytes) → ∃ a, r.inw w cs a

theorem opens_int {P : Program} {t : TypeId} (ht : P.underlying t = some (.int .i64)) : Opens Rep.int P t := by
  intro H enc w base held fuel cs d ps h _
  obtain ⟨n, rfl, _, hw⟩ := DataW.trod_int ht h
  refine ⟨n, rfl, ?_⟩
  simp only [Lit.wf, Bool.and_eq_true, decide_eq_true_eq, IntKind.min, IntKind.max, IntKind.bits, IntKind.signed] at hw
  simp at hw
  exact ⟨by omega, by omega⟩
theorem opens_bool {P : Program} {t : TypeId} (ht : P.underlying t = some .bool) : Opens Rep.bool P t := by
  intro H enc w base held fuel cs d ps h _
  obtain ⟨n, rfl, _⟩ := DataW.trod_bool ht h
  exact ⟨n, rfl⟩
theorem opens_str {P : Program} {t : TypeId} (ht : P.underlying t = some .string) : Opens Rep.str P t := by
  intro H enc w base held fuel cs d ps h hw
  obtain ⟨⟨⟨b⟩⟩, rfl, hx, _⟩ := DataW.trod_string ht h
  cases hx
  exact ⟨b, rfl, hw _ (by simp [DataW.weights])⟩

theorem list_of {α : Type} {Q : Nat → α → Prop} : ∀ n, (∀ i, i < n → ∃ c, Q i c) → ∃ l : List α, l.length = n ∧ ∀ (i : Nat) c, l[i]? = some c → Q i c
  | 0, _ => ⟨[], rfl, fun i c h => by simp at h⟩
  | n + 1, h => by
    obtain ⟨l, h1, h2⟩ := list_of n fun i hi => h i (by omega)
    obtain ⟨c, hc⟩ := h n (by omega)
    refine ⟨l ++ [c], by simp [h1], fun i c' hi => ?_⟩
    rw [List.getElem?_append] at hi
    split at hi
    · exact h2 i c' hi
    · rename_i hn
      have := (List.getElem?_eq_some_iff.1 hi).1
      simp at this
      obtain rfl : i = n := by omega
      rw [h1, Nat.sub_self] at hi
      simp at hi
      subst hi; exact hc

theorem weights_all {H : Type} {P : Program} {e : TypeId} : ∀ {l : List (DataW H)} {d : DataW H} {n : Nat}, d ∈ l → n ∈ d.weights P e → n ∈ DataW.weightsAll P e l
  | d' :: l, d, n, hd, hn => by
    simp only [DataW.weightsAll]
    rcases List.mem_cons.1 hd with rfl | hd
    · exact List.mem_append_left _ hn
    · exact List.mem_append_right _ (weights_all hd hn)

theorem opens_sl {α : Type} {r : Rep α} {P : Program} {t e : TypeId} (ht : P.underlying t = some (.slice e)) (hc : P.cellsOf e = r.z) (hby : 1 ≤ P.bytesOf e) (h : Opens r P e) : Opens r.sl P t := by
  intro H enc w base held fuel cs d ps hd hw
  rcases DataW.trod_slice ht hd with ⟨rfl, _⟩ | ⟨a, len, cap, elems, rest, n, _, rfl, hx, hb, hl, hm, hlen, hel, hsp, hns⟩
  · exact ⟨[], [], rfl, by simp, fun i c x h => by simp at h, .inl ⟨rfl, rfl⟩⟩
  obtain ⟨hrl, hr⟩ := hsp rfl
  cases hx
  simp only [DataW.weights, ht] at hw
  have hwl : (elems.length + rest.length) * P.bytesOf e ≤ reachBytes := by
    have := hw _ (List.mem_cons_self ..)
    simpa using this
  have hlr : len ≤ reachBytes := by
    have : (elems.length + rest.length) * 1 ≤ (elems.length + rest.length) * P.bytesOf e := Nat.mul_le_mul_left _ hby
    omega
  have each : ∀ i, i < cap → ∃ c, w.cells? base (a.add (i * r.z)) r.z = some c ∧ (i < len → ∃ x, r.inw w c x) := by
    intro i hi
    by_cases hil : i < len
    · have h1 := hel i hil
      have hy : ∃ y, elems[i]? = some y := ⟨elems[i]'(by omega), List.getElem?_eq_getElem (by omega)⟩
      obtain ⟨y, hy⟩ := hy
      rw [hy, hc, Option.bind_eq_some_iff] at h1
      obtain ⟨c, h2, h3⟩ := h1
      obtain ⟨y1, y2⟩ := y
      refine ⟨c, h2, fun _ => h H enc w base held n c y1 y2 h3 fun m hm => hw m (List.mem_cons_of_mem _ (List.mem_append_left _ (weights_all (d := y1) ?_ hm)))⟩
      exact List.mem_map.2 ⟨(y1, y2), List.mem_of_getElem? hy, rfl⟩
    · have h1 := hr (i - len) (by omega)
      have hy : ∃ y, rest[i - len]? = some y := ⟨rest[i - len]'(by omega), List.getElem?_eq_getElem (by omega)⟩
      obtain ⟨y, hy⟩ := hy
      rw [hy, hc, show len + (i - len) = i by omega, Option.bind_eq_some_iff] at h1
      obtain ⟨c, h2, h3⟩ := h1
      exact ⟨c, h2, fun h => absurd h hil⟩
  obtain ⟨css, hcl, hcs⟩ := list_of cap each
  obtain ⟨xs, hxl, hxs⟩ := list_of (Q := fun i x => ∃ c, css[i]? = some c ∧ r.inw w c x) len fun i hi => by
    have hg : css[i]? = some (css[i]'(by omega)) := List.getElem?_eq_getElem (by omega)
    obtain ⟨x, hx⟩ := (hcs i _ hg).2 hi
    exact ⟨x, _, hg, hx⟩
  have hall : ∀ c, c ∈ css → c.length = r.z := fun c hc => by
    obtain ⟨i, hi⟩ := List.getElem?_of_mem hc
    exact (World.cells?_some (hcs i c hi).1).2.1
  refine ⟨xs, css.take len, by simp; omega, by omega, fun i c x hc hx => ?_, .inr ⟨a, cap, (css.drop len).flatten, by rw [hxl], by omega, ?_, fun j v hv => ?_⟩⟩
  · obtain ⟨c', h1, h2⟩ := hxs i x hx
    rw [List.getElem?_take] at hc
    split at hc
    · rw [hc] at h1; cases h1; exact h2
    · cases hc
  · rw [← List.flatten_append, List.take_append_drop, flat_len hall, hcl]
  · rw [← List.flatten_append, List.take_append_drop] at hv
    have hz := r.hz
    have e : j / r.z * r.z + j % r.z = j := by rw [Nat.mul_comm]; exact Nat.div_add_mod ..
    have hk := Nat.mod_lt j hz
    rw [← e, flat_get hall _ _ hk, Option.bind_eq_some_iff] at hv
    obtain ⟨c, h1, h2⟩ := hv
    have h3 := (World.cells?_some (hcs _ c h1).1).2.2 (j % r.z) hk
    rw [Addr.add_add, e] at h3
    rw [h3]
    exact h2

def FO {α : Type} (r : Rep α) (P : Program) (fs : List Field) (o : Nat) : Prop := ∀ (H : Type) (enc : TypeId × Value → H) (w : World) (base : Nat) (held : Bool) (n : Nat) (cs : List Value) (xs : List (DataW H × List MemPlace)),
  cs.length = o + r.z → xs.length = fs.length → (∀ (i : Nat) f, fs[i]? = some f → DataW.trod enc P w base (fun _ => true) held n f.type ((cs.drop f.offset).take (P.cellsOf f.type)) = xs[i]?) →
  (∀ m, m ∈ DataW.weightsEach P (fs.map (·.type)) (xs.map (·.1)) → m ≤ reachBytes) → ∃ a, r.inw w (cs.drop o) a

theorem fo_one {α : Type} {r : Rep α} {P : Program} {f : Field} {o : Nat} (ho : f.offset = o) (hc : P.cellsOf f.type = r.z) (h : Opens r P f.type) : FO r P [f] o := by
  intro H enc w base held n cs xs hl hx hf hw
  match xs, hx with
  | [(d, ps)], _ =>
    have h1 := hf 0 f rfl
    rw [ho, hc, List.take_of_length_le (by rw [List.length_drop]; omega)] at h1
    exact h H enc w base held n _ d ps (by simpa using h1) fun m hm => hw m (by simp [DataW.weightsEach, hm])
theorem fo_cons {α α' : Type} {r : Rep α} {r' : Rep α'} {P : Program} {f : Field} {fs : List Field} {o : Nat} (ho : f.offset = o) (hc : P.cellsOf f.type = r.z) (h : Opens r P f.type) (h' : FO r' P fs (o + r.z)) : FO (r.pair r') P (f :: fs) o := by
  intro H enc w base held n cs xs hl hx hf hw
  match xs, hx with
  | (d, ps) :: xs, hx =>
    have hl' : cs.length = o + (r.z + r'.z) := hl
    have h1 := hf 0 f rfl
    rw [ho, hc] at h1
    obtain ⟨a, ha⟩ := h H enc w base held n _ d ps (by simpa using h1) fun m hm => hw m (by simp [DataW.weightsEach, hm])
    obtain ⟨b, hb⟩ := h' H enc w base held n cs xs (by omega) (by simpa using hx) (fun i f hi => hf (i + 1) f (by simpa using hi)) fun m hm => hw m (by simp [DataW.weightsEach]; right; simpa using hm)
    refine ⟨(a, b), _, _, ?_, ha, hb⟩
    rw [← List.drop_drop, List.take_append_drop]
theorem opens_struct {α : Type} {r : Rep α} {P : Program} {t : TypeId} {fs : Array Field} (ht : P.underlying t = some (.struct fs)) (hc : P.cellsOf t = r.z) (h : FO r P fs.toList 0) : Opens r P t := by
  intro H enc w base held fuel cs d ps hd hw
  obtain ⟨xs, n, _, hx, hl, hlen, hff⟩ := DataW.trod_struct ht hd
  cases hx
  simp only [DataW.weights, ht] at hw
  have := h H enc w base held n cs xs (by omega) (by simpa using hlen) (fun i f hi => hff i f (by simpa using hi)) hw
  simpa using this
end Go.EvW
end

section
set_option linter.unusedVariables false
namespace Go.EvW
open Go Go.Ev _root_.Ev
section
variable {N : Nat} {s0 s s' : St} {L : List Item} {P : Nat → Prop} {prog : Nat → Option CFunc} {ρ : Env} {Q : Env → St → Prop} {α : Type} {r : Rep α}
theorem Rep.at {c : List Value} {a : α} (h : r.ok s0 P c a) (H : Hs N s0 s L) (hP : ∀ A, P A → A < N) : r.ok s P c a := r.chg h H.ext fun A hA hn => absurd (hP A hA) (by omega)
theorem Rep.pur {c : List Value} {a : α} (h : r.ok s P c a) (k : Pur s s') : r.ok s' P c a := r.chg h k fun _ _ h => h
theorem Rep.sl_sl {v : Value} {xs : List α} (h : r.sl.ok s P [v] xs) : ∃ css, Sl s P r.z v xs.length css := by
  obtain ⟨v', css, e, _, _, h3, _⟩ := h
  cases e
  exact ⟨_, h3⟩
theorem Rep.sl_le {v : Value} {xs : List α} (h : r.sl.ok s P [v] xs) : xs.length ≤ 281474976710656 := by
  obtain ⟨v', css, e, _, _, _, h4⟩ := h
  exact Nat.le_trans h4 (by decide)
theorem strs_of {v : Value} {bs : List (List UInt8)} (h : Rep.str.sl.ok s P [v] bs) : IsStrs s P v bs ∧ ∀ b, b ∈ bs → b.length ≤ 281474976710656 := by
  obtain ⟨v', css, e, h1, h2, h3, h4⟩ := h
  cases e
  have hc : css = bs.map fun b => [.string ⟨⟨b⟩⟩] := by
    apply List.ext_getElem?
    intro i
    rw [List.getElem?_map]
    cases hi : css[i]? with
    | none =>
      have := List.getElem?_eq_none_iff.1 hi
      rw [List.getElem?_eq_none (by omega)]; rfl
    | some c =>
      have hil := (List.getElem?_eq_some_iff.1 hi).1
      rw [List.getElem?_eq_getElem (by omega)]
      have := (h2 i c _ hi (List.getElem?_eq_getElem (by omega))).1
      rw [this]; rfl
  constructor
  · have : css.flatten = enS bs := by
      rw [hc]
      clear h1 h2 h3 h4 hc
      induction bs with
      | nil => rfl
      | cons b bs ih => simp [ih]
    rw [this] at h3
    exact h3
  · intro b hb
    obtain ⟨i, hi⟩ := List.getElem?_of_mem hb
    have hil := (List.getElem?_eq_some_iff.1 hi).1
    exact Nat.le_trans (h2 i _ b (List.getElem?_eq_getElem (by omega)) hi).2 (by decide)
theorem ints_of {v : Value} {bs : List Int} (h : Rep.int.sl.ok s P [v] bs) : IsInts s P v bs ∧ ∀ b, b ∈ bs → Co.I64 b := by
  obtain ⟨v', css, e, h1, h2, h3, h4⟩ := h
  cases e
  have hc : css = bs.map fun b => [.int .i64 b] := by
    apply List.ext_getElem?
    intro i
    rw [List.getElem?_map]
    cases hi : css[i]? with
    | none =>
      have := List.getElem?_eq_none_iff.1 hi
      rw [List.getElem?_eq_none (by omega)]; rfl
    | some c =>
      have hil := (List.getElem?_eq_some_iff.1 hi).1
      rw [List.getElem?_eq_getElem (by omega)]
      have := (h2 i c _ hi (List.getElem?_eq_getElem (by omega))).1
      rw [this]; rfl
  constructor
  · have : css.flatten = enI bs := by
      rw [hc]
      clear h1 h2 h3 h4 hc
      induction bs with
      | nil => rfl
      | cons b bs ih => simp [ih]
    rw [this] at h3
    exact h3
  · intro b hb
    obtain ⟨i, hi⟩ := List.getElem?_of_mem hb
    have hil := (List.getElem?_eq_some_iff.1 hi).1
    exact (h2 i _ b (List.getElem?_eq_getElem (by omega)) hi).2
theorem bools_of {v : Value} {bs : List Bool} (h : Rep.bool.sl.ok s P [v] bs) : IsBools s P v bs := by
  obtain ⟨v', css, e, h1, h2, h3, h4⟩ := h
  cases e
  have hc : css = bs.map fun b => [.bool b] := by
    apply List.ext_getElem?
    intro i
    rw [List.getElem?_map]
    cases hi : css[i]? with
    | none =>
      have := List.getElem?_eq_none_iff.1 hi
      rw [List.getElem?_eq_none (by omega)]; rfl
    | some c =>
      have hil := (List.getElem?_eq_some_iff.1 hi).1
      rw [List.getElem?_eq_getElem (by omega)]
      have : c = _ := (h2 i c _ hi (List.getElem?_eq_getElem (by omega)))
      rw [this]; rfl
  have : css.flatten = enB bs := by
    rw [hc]
    clear h1 h2 h3 h4 hc
    induction bs with
    | nil => rfl
    | cons b bs ih => simp [ih]
  rw [this] at h3
  exact h3

variable {x y : Opd} {d d1 d2 : Nat} {v : Value} {xs : List α} {i : Int} {k : IntKind}
theorem Step.lenA (hx : x.evE ρ = v) (h : r.sl.ok s P [v] xs) : Step ρ s (.lenSl x) (.int .i64 ((xs.length : Nat) : Int)) s := by
  obtain ⟨css, h⟩ := Rep.sl_sl h
  exact Step.lenSl hx h

/-- A place of an item. -/
theorem Step.iaddrA {z : Nat} (hx : x.evE ρ = v) (h : r.sl.ok s P [v] xs) (hz : r.z = z) (hy : y.evE ρ = .int k i) (h0 : 0 ≤ i) (hi : i < xs.length) :
    ∃ A o cs c, Step ρ s (.iaddr z x y) (ptrV A o) s ∧ P A ∧ Row s A z cs ∧ cut cs o z = some c ∧ (∀ k, k < z → cs[o + k]? = c[k]?) ∧ c.length = z ∧ r.ok s P c (xs[i.toNat]'(by omega)) := by
  subst hz
  obtain ⟨v', css, e, h1, h2, h3, h4⟩ := h
  cases e
  obtain ⟨A, o, cs, _, hP, hr, hb, ht, hst⟩ := Step.iaddr hx h3 hy h0 hi
  have hall : ∀ c, c ∈ css → c.length = r.z := fun c hc => by
    obtain ⟨j, hj⟩ := List.getElem?_of_mem hc
    have hjl := (List.getElem?_eq_some_iff.1 hj).1
    exact r.len (h2 j c _ hj (List.getElem?_eq_getElem (by omega)))
  have hil : i.toNat < css.length := by omega
  have hok := h2 i.toNat (css[i.toNat]) (xs[i.toNat]'(by omega)) (List.getElem?_eq_getElem _) (List.getElem?_eq_getElem _)
  have hlen := r.len hok
  have hmul : (i.toNat + 1) * r.z ≤ xs.length * r.z := Nat.mul_le_mul_right _ (by omega)
  rw [Nat.add_mul, Nat.one_mul] at hmul
  have hget : ∀ k, k < r.z → cs[o + i.toNat * r.z + k]? = (css[i.toNat])[k]? := fun k hk => by
    have hf := flat_get hall i.toNat k hk
    rw [List.getElem?_eq_getElem hil] at hf
    rw [Option.bind_some] at hf
    rw [← hf, ← ht, List.getElem?_take, if_pos (by omega), List.getElem?_drop]
    congr 1; omega
  refine ⟨A, o + i.toNat * r.z, cs, css[i.toNat], hst, hP, hr, ?_, hget, hlen, hok⟩
  rw [cut_take _ _ _ (by omega), Option.some.injEq]
  apply List.ext_getElem?
  intro k
  rw [List.getElem?_take]
  by_cases hk : k < r.z
  · rw [if_pos hk, List.getElem?_drop]; exact hget k hk
  · rw [if_neg hk, List.getElem?_eq_none (by omega)]

/-- An item, as a whole. -/
theorem Wo.idxA {z : Nat} {l : List CE} (hx : x.evE ρ = v) (h : r.sl.ok s P [v] xs) (hz : r.z = z) (hy : y.evE ρ = .int k i) (h0 : 0 ≤ i) (hi : i < xs.length)
    (K : ∀ p c, r.ok s P c (xs[i.toNat]'(by omega)) → Wo prog l (upd (upd ρ d1 p) d2 (.agg ⟨c⟩)) s Q) : Wo prog (⟨some d1, .iaddr z x y, none⟩ :: ⟨some d2, .loadN z (.t d1), none⟩ :: l) ρ s Q := by
  obtain ⟨A, o, cs, c, hst, _, hr, hc, _, _, hok⟩ := Step.iaddrA hx h hz hy h0 hi
  refine Wo.op hst (Wo.op (Step.loadN (A := A) (o := o) (cs := cs) ?_ hr hc) (K _ c hok))
  simp [Opd.evE, upd]

def getp (R : List (List (List UInt8))) (i : Int) : List (List UInt8) := R.getD i.toNat []
theorem getp_eq {R : List (List (List UInt8))} {i : Int} (h : i.toNat < R.length) : R[i.toNat]'h = getp R i := by simp [getp, h]
/-- An item that is a slice of strings in a struct of one field. -/
theorem Wo.idxP {R : List (List (List UInt8))} {l : List CE} (hx : x.evE ρ = v) (h : Rep.str.sl.sl.ok s P [v] R) (hy : y.evE ρ = .int k i) (h0 : 0 ≤ i) (hi : i < R.length)
    (K : ∀ p u, Rep.str.sl.ok s P [u] (getp R i) → Wo prog l (upd (upd ρ d1 p) d2 (.agg ⟨[u]⟩)) s Q) : Wo prog (⟨some d1, .iaddr 1 x y, none⟩ :: ⟨some d2, .loadN 1 (.t d1), none⟩ :: l) ρ s Q :=
  Wo.idxA hx h rfl hy h0 hi fun p c hc => by
    rw [getp_eq] at hc
    obtain ⟨u, css, rfl, hr⟩ := hc
    exact K p u ⟨u, css, rfl, hr⟩
abbrev rCh : Rep (Int × Int × Int) := Rep.int.pair (Rep.int.pair Rep.int)
def getc (R : List (Int × Int × Int)) (i : Int) : Int × Int × Int := R.getD i.toNat (0, 0, 0)
theorem getc_eq {R : List (Int × Int × Int)} {i : Int} (h : i.toNat < R.length) : R[i.toNat]'h = getc R i := by simp [getc, h]
theorem ch_of {c : List Value} {a : Int × Int × Int} (h : rCh.ok s P c a) : c = [.int .i64 a.1, .int .i64 a.2.1, .int .i64 a.2.2] ∧ Co.I64 a.1 ∧ Co.I64 a.2.1 ∧ Co.I64 a.2.2 := by
  obtain ⟨_, _, rfl, ⟨rfl, h1⟩, _, _, rfl, ⟨rfl, h2⟩, rfl, h3⟩ := h
  exact ⟨rfl, h1, h2, h3⟩
theorem Wo.idxC {R : List (Int × Int × Int)} {l : List CE} (hx : x.evE ρ = v) (h : rCh.sl.ok s P [v] R) (hy : y.evE ρ = .int k i) (h0 : 0 ≤ i) (hi : i < R.length)
    (K : ∀ p, Co.I64 (getc R i).1 → Co.I64 (getc R i).2.1 → Co.I64 (getc R i).2.2 → Wo prog l (upd (upd ρ d1 p) d2 (.agg ⟨[.int .i64 (getc R i).1, .int .i64 (getc R i).2.1, .int .i64 (getc R i).2.2]⟩)) s Q) : Wo prog (⟨some d1, .iaddr 3 x y, none⟩ :: ⟨some d2, .loadN 3 (.t d1), none⟩ :: l) ρ s Q :=
  Wo.idxA hx h rfl hy h0 hi fun p c hc => by
    rw [getc_eq] at hc
    obtain ⟨rfl, h1, h2, h3⟩ := ch_of hc
    exact K p h1 h2 h3
/-- The first field of an item, in a region that draws. -/
theorem Wd.idxC0 {R : List (Int × Int × Int)} {d3 hi1 hi2 hi3 kk : Nat} {HH : Nat → St → Prop} {l : List (CE × Nat)} (hx : x.evE ρ = v) (h : rCh.sl.ok s P [v] R) (hy : y.evE ρ = .int k i) (h0 : 0 ≤ i) (hi : i < R.length)
    (K : ∀ p q, Co.I64 (getc R i).1 → Wd prog l kk (fun k' s' => (k' ≤ hi3 → s' = s) ∧ HH k' s') (upd (upd (upd ρ d1 p) d2 q) d3 (.int .i64 (getc R i).1)) s Q) :
    Wd prog ((⟨some d1, .iaddr 3 x y, none⟩, hi1) :: (⟨some d2, .faddr 0 (.t d1), none⟩, hi2) :: (⟨some d3, .load (.t d2), none⟩, hi3) :: l) kk HH ρ s Q := by
  obtain ⟨A, o, cs, c, hst, _, hr, hc, hg, _, hok⟩ := Step.iaddrA (z := 3) hx h rfl hy h0 hi
  rw [getc_eq] at hok
  obtain ⟨rfl, h1, h2, h3⟩ := ch_of hok
  have e1 : (Opd.t d1).evE (upd ρ d1 (ptrV A o)) = ptrV A o := by simp [Opd.evE, upd]
  have e2 : (Opd.t d2).evE (upd (upd ρ d1 (ptrV A o)) d2 (ptrV A (o + 0))) = ptrV A (o + 0) := by simp [Opd.evE, upd]
  have hv : cs[o + 0]? = some (.int .i64 (getc R i).1) := by rw [hg 0 (by omega)]; rfl
  refine Wd.pure rfl hst (Wd.pure rfl (Step.faddr e1) (Wd.read rfl (Step.load e2 hr hv) (Wd.weaken ?_ (K _ _ h1))))
  rintro k' s1 ⟨g1, g2⟩
  refine ⟨fun hk => ?_, g2⟩
  rw [g1 hk]
  exact ⟨_, _, Step.load e2 hr hv, veq_int _ _⟩
end
end Go.EvW
end

section
set_option linter.unusedVariables false
namespace Go.EvW
open Go Go.Ev _root_.Ev
section
variable {N : Nat} {s0 s s' : St} {L : List Item} {P : Nat → Prop} {prog : Nat → Option CFunc} {ρ : Env} {Q : Env → St → Prop}
theorem Sl.veq1 {z n : Nat} {v : Value} {cells : List Value} (h : Sl s P z v n cells) : veq1 v v = true := by
  have h2 := h.veq
  obtain ⟨a, c, rfl, _⟩ := h
  exact h2
theorem IsRows.veq1 {v : Value} {R : List (List Int)} (h : IsRows s P v R) : veq1 v v = true := by
  obtain ⟨vs, h1, _⟩ := h; exact h1.veq1
theorem veq_agg3 {a b c : Value} (h1 : veq1 a a = true) (h2 : veq1 b b = true) (h3 : veq1 c c = true) : veq (.agg ⟨[a, b, c]⟩) (.agg ⟨[a, b, c]⟩) = true := by
  simp only [veq, veqs1, h1, h2, h3]
theorem veq1_int (k : IntKind) (n : Int) : Ev.veq1 (.int k n) (.int k n) = true := veq_int k n
theorem veq1_bool (b : Bool) : Ev.veq1 (.bool b) (.bool b) = true := veq_bool b
theorem veq1_str (b : ByteArray) : Ev.veq1 (.string b) (.string b) = true := veq_str b
theorem veq_agg1 {a : Value} (h1 : veq1 a a = true) : veq (.agg ⟨[a]⟩) (.agg ⟨[a]⟩) = true := by
  simp only [veq, veqs1, h1]
theorem veq_agg2 {a b : Value} (h1 : veq1 a a = true) (h2 : veq1 b b = true) : veq (.agg ⟨[a, b]⟩) (.agg ⟨[a, b]⟩) = true := by
  simp only [veq, veqs1, h1, h2]
theorem veq_agg4 {a b c d : Value} (h1 : veq1 a a = true) (h2 : veq1 b b = true) (h3 : veq1 c c = true) (h4 : veq1 d d = true) : veq (.agg ⟨[a, b, c, d]⟩) (.agg ⟨[a, b, c, d]⟩) = true := by
  simp only [veq, veqs1, h1, h2, h3, h4]
theorem Rep.veq1 {α : Type} {r : Rep α} {v : Value} {xs : List α} (h : r.sl.ok s P [v] xs) : Ev.veq1 v v = true := by
  obtain ⟨css, h⟩ := Rep.sl_sl h
  exact h.veq1
theorem Wd.offU {d : Nat} {o : COp} {j k hi : Nat} {w : Bool} {H : Nat → St → Prop} {r : List (CE × Nat)} (h : ρ j = undefV) (hc : (match o.cls with | .eff => true | _ => false) = false) (K : Wd prog r k H (upd ρ d undefV) s Q) : Wd prog ((⟨some d, o, some (j, w)⟩, hi) :: r) k H ρ s Q := by
  intro t os ht hos
  obtain ⟨n, t', s'', ρ', h1, h2, h3⟩ := K _ os (ht.set d undefV) hos
  refine ⟨n, t', s'', ρ', ?_, h2, h3⟩
  simp only [runDraw, wanted_undef ht h, forceT_eq]
  split
  · rename_i he; rw [he] at hc; cases hc
  · exact h1
theorem Wd.offUE {d : Nat} {o : COp} {j k hi : Nat} {w : Bool} {H : Nat → St → Prop} {r : List (CE × Nat)} (h : ρ j = undefV) (hc : o.cls = .eff) (K : Wd prog r (k + 1) H (upd ρ d undefV) s Q) : Wd prog ((⟨some d, o, some (j, w)⟩, hi) :: r) k H ρ s Q := by
  intro t os ht hos
  obtain ⟨n, t', s'', ρ', h1, h2, h3⟩ := K _ os (ht.set d undefV) hos
  refine ⟨n, t', s'', ρ', ?_, h2, h3⟩
  simp only [runDraw, wanted_undef ht h, forceT_eq, hc]
  exact h1
theorem len_eq {α : Type} : ∀ (l : List α) (n : Nat), Ev.len l n = l.length + n
  | [], n => by simp [Ev.len]
  | x :: l, n => by simp only [Ev.len, len_eq l, List.length_cons]; omega
theorem Step.subS {x : Opd} {lo hi : Option Opd} {w : List UInt8} {l h : Nat} (hx : x.evE ρ = .string ⟨⟨w⟩⟩) (hlo : Bnd ρ 0 lo l) (hhi : Bnd ρ w.length hi h) (h1 : l ≤ h) (h2 : h ≤ w.length) : Step ρ s (.sub x lo hi) (.string ⟨⟨(w.drop l).take (h - l)⟩⟩) s := by
  intro t ht
  have hb : bounds (Ev.len w 0) (Ev.len w 0) (optEv t lo) (optEv t hi) = some (l, h) := by
    rw [len_eq, Nat.add_zero]
    simp only [bounds, hhi t ht, hlo t ht, Nat.ble_eq_true_of_le h2, Nat.ble_eq_true_of_le h1]
  simp only [doOp, ht.ev, hx, hb, cut_take w l (h - l) (by omega), strV]
theorem Step.sneq {x y : Opd} {a b : List UInt8} (hx : x.evE ρ = .string ⟨⟨a⟩⟩) (hy : y.evE ρ = .string ⟨⟨b⟩⟩) : Step ρ s (.bin .neq x y) (.bool (decide (a ≠ b))) s := by
  intro t ht
  have : binF .neq (.string ⟨⟨a⟩⟩) (.string ⟨⟨b⟩⟩) = some (.bool (decide (a ≠ b))) := by
    show binStr .neq a b = _
    simp only [binStr, beqBytes_eq, boolXor]
    by_cases e : a = b <;> simp [e]
  simp only [doOp, ht.ev, hx, hy, this]
/-- A part of an argument's row, told of the state at the beginning. -/
theorem Wo.slice0 {z n l h d : Nat} {x : Opd} {lo hi : Option Opd} {v : Value} {cells : List Value} {r : List CE} (hx : x.evE ρ = v) (h0 : Sl s0 P z v n cells) (H : Hs N s0 s L) (hP : ∀ A, P A → A < N) (hlo : Bnd ρ 0 lo l) (hhi : Bnd ρ n hi h) (h1 : l ≤ h) (h2 : h ≤ n)
    (K : ∀ v', Sl s0 P z v' (h - l) ((cells.drop (l * z)).take ((h - l) * z)) → Wo prog r (upd ρ d v') s Q) : Wo prog (⟨some d, .slice z x lo hi, none⟩ :: r) ρ s Q := by
  have hs := h0.at H hP
  obtain ⟨b, c, rfl, g2, g3, g4⟩ := h0
  have hb : ∀ t, Agree t ρ → bounds n c (optEv t lo) (optEv t hi) = some (l, h) := fun t ht => by
    simp only [bounds, hhi t ht, hlo t ht, Nat.ble_eq_true_of_le (show h ≤ c by omega), Nat.ble_eq_true_of_le h1]
  rcases g4 with ⟨rfl, rfl, rfl⟩ | ⟨A, o, cs, rfl, h5, h6, h7, h8⟩
  · obtain rfl : h = 0 := by omega
    obtain rfl : l = 0 := by omega
    simp at g3; subst g3
    refine Wo.op (v := .slice none 0 0) (fun t ht => ?_) (K _ (by simpa using Sl.nil))
    simp only [doOp, ht.ev, hx, hb t ht]
  · have hmul : (h - l) * z + l * z ≤ n * z := by rw [← Nat.add_mul]; exact Nat.mul_le_mul_right _ (by omega)
    have h6' := h6
    obtain ⟨k1, e, g, od, k2, k3⟩ := h6.chg H.ext (fun hn => absurd (hP A h5) (by omega))
    have hst : s.strideIs A z = true := by
      cases s with | mk hp nx ep =>
      simp only [St.obj] at k2
      simp only [St.strideIs, k2, Nat.beq_refl]
    refine Wo.op (v := .slice (some ⟨A, o + l * z, none⟩) (h - l) (c - l)) (fun t ht => ?_) (K _ ⟨_, _, rfl, by omega, ?_, .inr ⟨A, o + l * z, cs, rfl, h5, h6', by omega, ?_⟩⟩)
    · simp only [doOp, ht.ev, hx, hb t ht, hst]
    · rw [List.length_take, List.length_drop, g3]; omega
    · rw [← h8, List.drop_take, List.take_take, List.drop_drop]
      rw [show Min.min ((h - l) * z) (n * z - l * z) = (h - l) * z by omega]
theorem Sl.cutS {xs : List (List UInt8)} {l h : Nat} {v : Value} (h1 : l ≤ h) (h2 : h ≤ xs.length) (hs : Sl s P 1 v (h - l) (((enS xs).drop (l * 1)).take ((h - l) * 1))) : IsStrs s P v ((xs.drop l).take (h - l)) := by
  have e : ((enS xs).drop (l * 1)).take ((h - l) * 1) = enS ((xs.drop l).take (h - l)) := by simp [enS, List.map_drop, List.map_take]
  have hl : ((xs.drop l).take (h - l)).length = h - l := by simp; omega
  rw [e] at hs
  unfold IsStrs
  rw [hl]
  exact hs
end
section
variable {N : Nat} {s0 s s' : St} {L : List Item} {P M : Nat → Prop} {prog : Nat → Option CFunc} {ρ : Env} {Q : Env → St → Prop} {α : Type} {r : Rep α}
theorem Rep.cellE {v x : Value} {xs : List α} (h : r.sl.ok s P [v] xs) (e : x = v) : cellsOfV x = [v] := by
  obtain ⟨css, h⟩ := Rep.sl_sl h
  exact Sl.cellE h e
theorem Rep.one {v : Value} {xs : List α} (h : r.sl.ok s P [v] xs) : ones [v] = true := by
  obtain ⟨css, h⟩ := Rep.sl_sl h
  exact Sl.one h
theorem Rep.veq {v : Value} {xs : List α} (h : r.sl.ok s P [v] xs) : veq v v = true := by
  obtain ⟨css, h⟩ := Rep.sl_sl h
  exact Sl.veq h
variable {x y : Opd} {d d1 d2 : Nat} {v : Value} {xs : List α} {i : Int} {k : IntKind}
/-- A place of an item of an argument: what is said of the item is said of the beginning. -/
theorem Step.iaddrA0 {z : Nat} (hx : x.evE ρ = v) (h : r.sl.ok s0 P [v] xs) (hch : Chg M s0 s) (hPM : ∀ A, P A → ¬ M A) (hz : r.z = z) (hy : y.evE ρ = .int k i) (h0 : 0 ≤ i) (hi : i < xs.length) :
    ∃ A o cs c, Step ρ s (.iaddr z x y) (ptrV A o) s ∧ P A ∧ Row s A z cs ∧ cut cs o z = some c ∧ (∀ k, k < z → cs[o + k]? = c[k]?) ∧ c.length = z ∧ r.ok s0 P c (xs[i.toNat]'(by omega)) := by
  subst hz
  obtain ⟨v', css, e, h1, h2, h3, h4⟩ := h
  cases e
  obtain ⟨A, o, cs, _, hP, hr, hb, ht, hst⟩ := Step.iaddr hx (h3.chg hch hPM) hy h0 hi
  have hall : ∀ c, c ∈ css → c.length = r.z := fun c hc => by
    obtain ⟨j, hj⟩ := List.getElem?_of_mem hc
    have hjl := (List.getElem?_eq_some_iff.1 hj).1
    exact r.len (h2 j c _ hj (List.getElem?_eq_getElem (by omega)))
  have hil : i.toNat < css.length := by omega
  have hok := h2 i.toNat (css[i.toNat]) (xs[i.toNat]'(by omega)) (List.getElem?_eq_getElem _) (List.getElem?_eq_getElem _)
  have hlen := r.len hok
  have hmul : (i.toNat + 1) * r.z ≤ xs.length * r.z := Nat.mul_le_mul_right _ (by omega)
  rw [Nat.add_mul, Nat.one_mul] at hmul
  have hget : ∀ k, k < r.z → cs[o + i.toNat * r.z + k]? = (css[i.toNat])[k]? := fun k hk => by
    have hf := flat_get hall i.toNat k hk
    rw [List.getElem?_eq_getElem hil] at hf
    rw [Option.bind_some] at hf
    rw [← hf, ← ht, List.getElem?_take, if_pos (by omega), List.getElem?_drop]
    congr 1; omega
  refine ⟨A, o + i.toNat * r.z, cs, css[i.toNat], hst, hP, hr, ?_, hget, hlen, hok⟩
  rw [cut_take _ _ _ (by omega), Option.some.injEq]
  apply List.ext_getElem?
  intro k
  rw [List.getElem?_take]
  by_cases hk : k < r.z
  · rw [if_pos hk, List.getElem?_drop]; exact hget k hk
  · rw [if_neg hk, List.getElem?_eq_none (by omega)]
theorem Wo.idxA0 {z : Nat} {l : List CE} (H : Hs N s0 s L) (hx : x.evE ρ = v) (h : r.sl.ok s0 P [v] xs) (hP : ∀ A, P A → A < N) (hz : r.z = z) (hy : y.evE ρ = .int k i) (h0 : 0 ≤ i) (hi : i < xs.length)
    (K : ∀ p c, r.ok s0 P c (xs[i.toNat]'(by omega)) → Wo prog l (upd (upd ρ d1 p) d2 (.agg ⟨c⟩)) s Q) : Wo prog (⟨some d1, .iaddr z x y, none⟩ :: ⟨some d2, .loadN z (.t d1), none⟩ :: l) ρ s Q := by
  obtain ⟨A, o, cs, c, hst, _, hr, hc, _, _, hok⟩ := Step.iaddrA0 hx h H.ext (fun A hA hn => absurd (hP A hA) (by omega)) hz hy h0 hi
  refine Wo.op hst (Wo.op (Step.loadN (A := A) (o := o) (cs := cs) ?_ hr hc) (K _ c hok))
  simp [Opd.evE, upd]
theorem Wo.idxP0 {R : List (List (List UInt8))} {l : List CE} (H : Hs N s0 s L) (hx : x.evE ρ = v) (h : Rep.str.sl.sl.ok s0 P [v] R) (hP : ∀ A, P A → A < N) (hy : y.evE ρ = .int k i) (h0 : 0 ≤ i) (hi : i < R.length)
    (K : ∀ p u, Rep.str.sl.ok s0 P [u] (getp R i) → Wo prog l (upd (upd ρ d1 p) d2 (.agg ⟨[u]⟩)) s Q) : Wo prog (⟨some d1, .iaddr 1 x y, none⟩ :: ⟨some d2, .loadN 1 (.t d1), none⟩ :: l) ρ s Q :=
  Wo.idxA0 H hx h hP rfl hy h0 hi fun p c hc => by
    rw [getp_eq] at hc
    obtain ⟨u, css, rfl, hr⟩ := hc
    exact K p u ⟨u, css, rfl, hr⟩
theorem Wd.idxP0 {R : List (List (List UInt8))} {hi1 hi2 kk : Nat} {HH : Nat → St → Prop} {l : List (CE × Nat)} (H : Hs N s0 s L) (hx : x.evE ρ = v) (h : Rep.str.sl.sl.ok s0 P [v] R) (hP : ∀ A, P A → A < N) (hy : y.evE ρ = .int k i) (h0 : 0 ≤ i) (hi : i < R.length)
    (K : ∀ p u, Rep.str.sl.ok s0 P [u] (getp R i) → Wd prog l kk (fun k' s' => (k' ≤ hi2 → s' = s) ∧ HH k' s') (upd (upd ρ d1 p) d2 (.agg ⟨[u]⟩)) s Q) : Wd prog ((⟨some d1, .iaddr 1 x y, none⟩, hi1) :: (⟨some d2, .loadN 1 (.t d1), none⟩, hi2) :: l) kk HH ρ s Q := by
  obtain ⟨A, o, cs, c, hst, _, hr, hc, _, _, hok⟩ := Step.iaddrA0 (z := 1) hx h H.ext (fun A hA hn => absurd (hP A hA) (by omega)) rfl hy h0 hi
  rw [getp_eq] at hok
  obtain ⟨u, css, rfl, hrest⟩ := hok
  have hu : Rep.str.sl.ok s0 P [u] (getp R i) := ⟨u, css, rfl, hrest⟩
  have e1 : (Opd.t d1).evE (upd ρ d1 (ptrV A o)) = ptrV A o := by simp [Opd.evE, upd]
  refine Wd.pure rfl hst (Wd.read rfl (Step.loadN e1 hr hc) (Wd.weaken ?_ (K _ u hu)))
  rintro k' s1 ⟨g1, g2⟩
  refine ⟨fun hk => ?_, g2⟩
  rw [g1 hk]
  exact ⟨_, _, Step.loadN e1 hr hc, veq_agg1 (Rep.veq1 hu)⟩
/-- The place of an item, in a region that draws. -/
theorem Wd.iaddrC {R : List (Int × Int × Int)} {hi1 kk : Nat} {HH : Nat → St → Prop} {l : List (CE × Nat)} (hx : x.evE ρ = v) (h : rCh.sl.ok s P [v] R) (hy : y.evE ρ = .int k i) (h0 : 0 ≤ i) (hi : i < R.length)
    (K : ∀ A o cs, Row s A 3 cs → cs[o + 0]? = some (.int .i64 (getc R i).1) → Wd prog l kk HH (upd ρ d1 (ptrV A o)) s Q) : Wd prog ((⟨some d1, .iaddr 3 x y, none⟩, hi1) :: l) kk HH ρ s Q := by
  obtain ⟨A, o, cs, c, hst, _, hr, hc, hg, _, hok⟩ := Step.iaddrA (z := 3) hx h rfl hy h0 hi
  rw [getc_eq] at hok
  obtain ⟨rfl, _, _, _⟩ := ch_of hok
  exact Wd.pure rfl hst (K A o cs hr (by rw [hg 0 (by omega)]; rfl))
end
end Go.EvW
end
