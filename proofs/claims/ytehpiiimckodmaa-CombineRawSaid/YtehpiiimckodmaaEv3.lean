/- Regions, code and calls: the evaluator tells the truth. -/
import Derived.Test.YtehpiiimckodmaaEv2
import Derived.Tactics
import Derived.Orders
set_option linter.unusedVariables false
set_option linter.unusedSimpArgs false
section
set_option linter.unusedSimpArgs false
set_option linter.unusedVariables false
namespace Go.Ev
open Go _root_.Ev Go.RowKit

theorem stepOpF_eq (call : CallF) (t : T Value) (s : St) (o : COp) : stepOpF call t s o = stepOp call t s o := by
  cases o <;> rfl

theorem forceT_eq {α β : Type} (t : T α) (k : T α → β) : forceT t k = k t := by cases t <;> rfl

theorem forceN_eq {β : Type} (n : Nat) (k : Nat → β) : forceN n k = k n := by cases n <;> rfl

theorem forceV_eq {β : Type} (v : Value) (k : Value → β) : forceV v k = k v := by
  cases v with
  | bool b => cases b <;> rfl
  | int kd n => cases n <;> simp only [forceV, forceN_eq]
  | pointer a =>
    cases a with
    | none => rfl
    | some a => obtain ⟨A, o, x⟩ := a; simp only [forceV, forceN_eq]
  | slice a n c =>
    cases a with
    | none => simp only [forceV, forceN_eq]
    | some a => obtain ⟨A, o, x⟩ := a; simp only [forceV, forceN_eq]
  | map r => cases r <;> simp only [forceV, forceN_eq]
  | _ => rfl

theorem forceS_eq {β : Type} (s : St) (k : St → β) : forceS s k = k s := by
  cases s; simp only [forceS, forceT_eq, forceN_eq]

theorem beqB_eq {x y : List UInt8} (h : beqBytes x y = true) : x = y := by rw [beqBytes_eq] at h; exact eq_of_beq h

theorem veq1_eq {v u : Value} (h : veq1 v u = true) : v = u := by
  unfold veq1 at h
  split at h
  · rename_i a b; cases a <;> cases b <;> simp_all [boolXor]
  · rename_i k a k' b
    split at h
    · rename_i hk; have hk := of_decide_eq_true hk; rw [beqF_eq] at h; rw [hk, of_decide_eq_true h]
    · cases h
  · rename_i a b
    obtain ⟨⟨a⟩⟩ := a
    obtain ⟨⟨b⟩⟩ := b
    rw [show a = b from beqB_eq h]
  · rfl
  · rename_i A o B p
    split at h
    · rename_i hk; rw [Nat.eq_of_beq_eq_true hk, Nat.eq_of_beq_eq_true h]
    · cases h
  · rename_i n c m d
    split at h
    · rename_i hk; rw [Nat.eq_of_beq_eq_true hk, Nat.eq_of_beq_eq_true h]
    · cases h
  · rename_i A o n c B p m d
    repeat' split at h
    all_goals first
      | (cases h; done)
      | (rename_i h1 _ h2 _ h3; rw [Nat.eq_of_beq_eq_true h1, Nat.eq_of_beq_eq_true h2, Nat.eq_of_beq_eq_true h3, Nat.eq_of_beq_eq_true h])
  · rfl
  · rw [Nat.eq_of_beq_eq_true h]
  · rfl
  · rfl
  · cases h

theorem veqs1_eq : ∀ {v u : List Value}, veqs1 v u = true → v = u
  | [], [], _ => rfl
  | x :: xs, y :: ys, h => by
    simp only [veqs1] at h
    cases h1 : veq1 x y with
    | false => simp [h1] at h
    | true => simp only [h1] at h; rw [veq1_eq h1, veqs1_eq h]
  | [], _ :: _, h => by simp [veqs1] at h
  | _ :: _, [], h => by simp [veqs1] at h

theorem veq_eq {v u : Value} (h : veq v u = true) : v = u := by
  unfold veq at h
  split at h
  · rename_i a
    split at h
    · rename_i b; obtain ⟨a⟩ := a; obtain ⟨b⟩ := b; rw [show a = b from veqs1_eq h]
    · cases h
  · rename_i a
    split at h
    · rename_i b; obtain ⟨a⟩ := a; obtain ⟨b⟩ := b; rw [show a = b from veqs1_eq h]
    · cases h
  · rename_i f a b
    split at h
    · rename_i g c d
      obtain ⟨a⟩ := a; obtain ⟨b⟩ := b; obtain ⟨c⟩ := c; obtain ⟨d⟩ := d
      split at h
      · rename_i h1
        split at h
        · rename_i h2; rw [Nat.eq_of_beq_eq_true h1, show a = c from veqs1_eq h2, show b = d from veqs1_eq h]
        · cases h
      · cases h
    · cases h
  · exact veq1_eq h

theorem veqs_eq : ∀ {v u : List Value}, veqs v u = true → v = u
  | [], [], _ => rfl
  | x :: xs, y :: ys, h => by
    simp only [veqs] at h
    cases h1 : veq x y with
    | false => simp [h1] at h
    | true => simp only [h1] at h; rw [veq_eq h1, veqs_eq h]
  | [], _ :: _, h => by simp [veqs] at h
  | _ :: _, [], h => by simp [veqs] at h

theorem optBeq_eq {a b : Option Nat} (h : optBeq a b = true) : a = b := by
  cases a <;> cases b <;> simp_all [optBeq]

theorem objEq_eq {a b : AObj} (h : objEq a b = true) : a = b := by
  unfold objEq at h
  split at h
  · repeat' split at h
    all_goals first
      | (cases h; done)
      | (rename_i h1 _ h2 _ h3 _ h4; rw [Nat.eq_of_beq_eq_true h1, Nat.eq_of_beq_eq_true h2, optBeq_eq h3, optBeq_eq h4, veqs_eq h])
  · rw [Nat.eq_of_beq_eq_true h]
  · split at h
    · rename_i h1; rw [beqB_eq h1, Nat.eq_of_beq_eq_true h]
    · cases h
  · cases h

section
variable {t t' : T Value} {s s' : St}

theorem ev_congr {x : Opd} (h : ∀ u ∈ x.tmp, t.get u = t'.get u) : x.ev t = x.ev t' := by
  cases x with
  | c v => rfl
  | t n => simp only [Opd.ev]; rw [h n (by simp [Opd.tmp])]

theorem evs_congr : ∀ {xs : List Opd}, (∀ u ∈ xs.flatMap Opd.tmp, t.get u = t'.get u) → evs t xs = evs t' xs
  | [], _ => rfl
  | x :: xs, h => by
    simp only [evs]
    rw [ev_congr fun u hu => h u (by simp [List.flatMap_cons]; exact .inl hu), evs_congr fun u hu => h u (by rw [List.flatMap_cons]; exact List.mem_append_right _ hu)]

theorem partsV_congr : ∀ {ps : List (Nat × Nat × Opd)}, (∀ u ∈ ps.flatMap (fun p => p.2.2.tmp), t.get u = t'.get u) → partsV t ps = partsV t' ps
  | [], _ => rfl
  | (a, b, x) :: ps, h => by
    simp only [partsV]
    rw [ev_congr fun u hu => h u (by rw [List.flatMap_cons]; exact List.mem_append_left _ hu), partsV_congr fun u hu => h u (by rw [List.flatMap_cons]; exact List.mem_append_right _ hu)]

theorem partsS_congr {z : Nat} : ∀ {ps : List (Nat × Opd)}, (∀ u ∈ ps.flatMap (fun p => p.2.tmp), t.get u = t'.get u) → partsS t z ps = partsS t' z ps
  | [], _ => rfl
  | (i, x) :: ps, h => by
    simp only [partsS]
    rw [ev_congr fun u hu => h u (by rw [List.flatMap_cons]; exact List.mem_append_left _ hu), partsS_congr fun u hu => h u (by rw [List.flatMap_cons]; exact List.mem_append_right _ hu)]

theorem optEv_congr {x : Option Opd} (h : ∀ u ∈ optTmp x, t.get u = t'.get u) : optEv t x = optEv t' x := by
  cases x with
  | none => rfl
  | some x => simp only [optEv]; rw [ev_congr h]

/-- An operation looks at its own temporaries alone. -/
theorem doOp_congr {o : COp} (h : ∀ u ∈ o.tmps, t.get u = t'.get u) : doOp t s o = doOp t' s o := by
  cases o with
  | move x => simp only [doOp, ev_congr (x := x) (fun u hu => h u (by simp_all [COp.tmps]))]
  | pick c a b => simp only [doOp, ev_congr (x := c) (fun u hu => h u (by simp_all [COp.tmps])), ev_congr (x := a) (fun u hu => h u (by simp_all [COp.tmps])), ev_congr (x := b) (fun u hu => h u (by simp_all [COp.tmps]))]
  | alloc _ _ => rfl
  | box _ x => simp only [doOp, ev_congr (x := x) (fun u hu => h u (by simp_all [COp.tmps]))]
  | build _ ps => simp only [doOp, partsV_congr (ps := ps) (fun u hu => h u (by simp_all [COp.tmps]))]
  | buildSlice _ _ _ _ ps => simp only [doOp, partsS_congr (ps := ps) (fun u hu => h u (by simp_all [COp.tmps]))]
  | load x => simp only [doOp, ev_congr (x := x) (fun u hu => h u (by simp_all [COp.tmps]))]
  | loadN _ x => simp only [doOp, ev_congr (x := x) (fun u hu => h u (by simp_all [COp.tmps]))]
  | store _ x y => simp only [doOp, ev_congr (x := x) (fun u hu => h u (by simp_all [COp.tmps])), ev_congr (x := y) (fun u hu => h u (by simp_all [COp.tmps]))]
  | nilCheck x => simp only [doOp, ev_congr (x := x) (fun u hu => h u (by simp_all [COp.tmps]))]
  | bin _ x y => simp only [doOp, ev_congr (x := x) (fun u hu => h u (by simp_all [COp.tmps])), ev_congr (x := y) (fun u hu => h u (by simp_all [COp.tmps]))]
  | eqB _ x y => simp only [doOp, ev_congr (x := x) (fun u hu => h u (by simp_all [COp.tmps])), ev_congr (x := y) (fun u hu => h u (by simp_all [COp.tmps]))]
  | eqNil _ _ x => simp only [doOp, ev_congr (x := x) (fun u hu => h u (by simp_all [COp.tmps]))]
  | eqFlat _ _ x y => simp only [doOp, ev_congr (x := x) (fun u hu => h u (by simp_all [COp.tmps])), ev_congr (x := y) (fun u hu => h u (by simp_all [COp.tmps]))]
  | not x => simp only [doOp, ev_congr (x := x) (fun u hu => h u (by simp_all [COp.tmps]))]
  | neg x => simp only [doOp, ev_congr (x := x) (fun u hu => h u (by simp_all [COp.tmps]))]
  | conv _ x => simp only [doOp, ev_congr (x := x) (fun u hu => h u (by simp_all [COp.tmps]))]
  | runeStr x => simp only [doOp, ev_congr (x := x) (fun u hu => h u (by simp_all [COp.tmps]))]
  | str x => simp only [doOp, ev_congr (x := x) (fun u hu => h u (by simp_all [COp.tmps]))]
  | bytesOf _ x => simp only [doOp, ev_congr (x := x) (fun u hu => h u (by simp_all [COp.tmps]))]
  | strOf x => simp only [doOp, ev_congr (x := x) (fun u hu => h u (by simp_all [COp.tmps]))]
  | mkFunc _ a b => simp only [doOp, evs_congr (xs := a) (fun u hu => h u (by simp_all [COp.tmps])), evs_congr (xs := b) (fun u hu => h u (by simp_all [COp.tmps]))]
  | mkMap => rfl
  | mkSlice _ _ _ _ x y => simp only [doOp, ev_congr (x := x) (fun u hu => h u (by simp_all [COp.tmps])), ev_congr (x := y) (fun u hu => h u (by simp_all [COp.tmps]))]
  | sub x lo hi => simp only [doOp, ev_congr (x := x) (fun u hu => h u (by simp_all [COp.tmps])), optEv_congr (x := lo) (fun u hu => h u (by simp_all [COp.tmps])), optEv_congr (x := hi) (fun u hu => h u (by simp_all [COp.tmps]))]
  | slice _ x lo hi => simp only [doOp, ev_congr (x := x) (fun u hu => h u (by simp_all [COp.tmps])), optEv_congr (x := lo) (fun u hu => h u (by simp_all [COp.tmps])), optEv_congr (x := hi) (fun u hu => h u (by simp_all [COp.tmps]))]
  | faddr _ x => simp only [doOp, ev_congr (x := x) (fun u hu => h u (by simp_all [COp.tmps]))]
  | field _ x => simp only [doOp, ev_congr (x := x) (fun u hu => h u (by simp_all [COp.tmps]))]
  | fieldN _ _ x => simp only [doOp, ev_congr (x := x) (fun u hu => h u (by simp_all [COp.tmps]))]
  | iaddr _ x y => simp only [doOp, ev_congr (x := x) (fun u hu => h u (by simp_all [COp.tmps])), ev_congr (x := y) (fun u hu => h u (by simp_all [COp.tmps]))]
  | iaddrA _ _ x y => simp only [doOp, ev_congr (x := x) (fun u hu => h u (by simp_all [COp.tmps])), ev_congr (x := y) (fun u hu => h u (by simp_all [COp.tmps]))]
  | idxStr x y => simp only [doOp, ev_congr (x := x) (fun u hu => h u (by simp_all [COp.tmps])), ev_congr (x := y) (fun u hu => h u (by simp_all [COp.tmps]))]
  | idxA _ x y => simp only [doOp, ev_congr (x := x) (fun u hu => h u (by simp_all [COp.tmps])), ev_congr (x := y) (fun u hu => h u (by simp_all [COp.tmps]))]
  | idxAN _ _ x y => simp only [doOp, ev_congr (x := x) (fun u hu => h u (by simp_all [COp.tmps])), ev_congr (x := y) (fun u hu => h u (by simp_all [COp.tmps]))]
  | lookup _ _ _ x y => simp only [doOp, ev_congr (x := x) (fun u hu => h u (by simp_all [COp.tmps])), ev_congr (x := y) (fun u hu => h u (by simp_all [COp.tmps]))]
  | mapSet _ m k v => simp only [doOp, ev_congr (x := m) (fun u hu => h u (by simp_all [COp.tmps])), ev_congr (x := k) (fun u hu => h u (by simp_all [COp.tmps])), ev_congr (x := v) (fun u hu => h u (by simp_all [COp.tmps]))]
  | mapEntry _ _ m k => rfl
  | entryStore m s' v => rfl
  | extract _ x => simp only [doOp, ev_congr (x := x) (fun u hu => h u (by simp_all [COp.tmps]))]
  | call _ a => rfl
  | callv x a => rfl
  | lenStr x => simp only [doOp, ev_congr (x := x) (fun u hu => h u (by simp_all [COp.tmps]))]
  | lenSl x => simp only [doOp, ev_congr (x := x) (fun u hu => h u (by simp_all [COp.tmps]))]
  | lenMap x => simp only [doOp, ev_congr (x := x) (fun u hu => h u (by simp_all [COp.tmps]))]
  | lenC _ => rfl
  | append _ _ _ x y => simp only [doOp, ev_congr (x := x) (fun u hu => h u (by simp_all [COp.tmps])), ev_congr (x := y) (fun u hu => h u (by simp_all [COp.tmps]))]
  | copy _ x y => simp only [doOp, ev_congr (x := x) (fun u hu => h u (by simp_all [COp.tmps])), ev_congr (x := y) (fun u hu => h u (by simp_all [COp.tmps]))]
  | delete _ x y => rfl
  | most _ x y => simp only [doOp, ev_congr (x := x) (fun u hu => h u (by simp_all [COp.tmps])), ev_congr (x := y) (fun u hu => h u (by simp_all [COp.tmps]))]
  | range x => simp only [doOp, ev_congr (x := x) (fun u hu => h u (by simp_all [COp.tmps]))]
  | next x => simp only [doOp, ev_congr (x := x) (fun u hu => h u (by simp_all [COp.tmps]))]
  | bad => rfl

theorem setObj_next (s : St) (A : Nat) (o : AObj) : (s.setObj A o).nextId = s.nextId := by cases s; rfl

theorem write_next {A o : Nat} {vs : List Value} (h : s.write A o vs = some s') : s'.nextId = s.nextId := by
  cases s with | mk hh nx ep =>
  simp only [St.write] at h
  repeat' split at h
  all_goals first
    | (cases h; done)
    | (cases h; rfl)

theorem heir_next {A o m e z A' : Nat} {vs : List Value} (h : s.heir A o m e z vs = some (A', s')) : s'.nextId = s.nextId + 1 := by
  cases s with | mk hh nx ep =>
  simp only [St.heir] at h
  repeat' split at h
  all_goals first
    | (cases h; done)
    | (cases h; rfl)

theorem mapSet_next {kk : KK} {m k v : Value} (h : mapSetF s kk m k v = some s') : s'.nextId = s.nextId := by
  unfold mapSetF at h
  repeat' split at h
  all_goals first
    | (cases h; done)
    | (cases h; exact setObj_next _ _ _)

theorem new_next {o : AObj} {A : Nat} (h : s.new o = (A, s')) : s.nextId ≤ s'.nextId := by
  rw [(new_pair h).2, next_new]; omega

theorem append_next {e z b : Nat} {x y v : Value} (h : appendF s e z b x y = some (v, s')) : s.nextId ≤ s'.nextId := by
  unfold appendF at h
  repeat' split at h
  all_goals first
    | (cases h; done)
    | (cases h; exact Nat.le_refl _)
    | (cases h; rename_i hw; exact Nat.le_of_eq (write_next hw).symm)
    | (cases h; rename_i hw; exact new_next hw)
    | (cases h; rename_i hw; rw [heir_next hw]; omega)

theorem doOp_next {o : COp} {v : Value} (h : doOp t s o = some (v, s')) : s.nextId ≤ s'.nextId := by
  cases o <;> simp only [doOp] at h
  case append => exact append_next h
  all_goals
    repeat' split at h
    all_goals first
      | (cases h; done)
      | (cases h; exact Nat.le_refl _)
      | (cases h; rename_i hw; exact Nat.le_of_eq (write_next hw).symm)
      | (cases h; rename_i hw; exact Nat.le_of_eq (mapSet_next hw).symm)
      | (cases h; rename_i hw; exact new_next hw)
      | (cases h; rw [next_new]; omega)
      | (cases h; exact Nat.le_of_eq (setObj_next _ _ _).symm)
end
end Go.Ev
end

section
set_option linter.unusedSimpArgs false
set_option linter.unusedVariables false
namespace Go.Ev
open Go _root_.Ev Go.RowKit

section
variable {P : Program} {β : Bl} {t : T Value} {s s' : St} {a : Act} {v : Value} {cop : COp} {base : Nat} {w0 w : World} {ops : Array Oper} {o : Oper}

def keep (t : T Value) : List Nat → T Value
  | [] => .nil
  | u :: r => match t.get u with
    | some v => (keep t r).set u v
    | none => keep t r

theorem keep_get (t : T Value) (k : Nat) : ∀ l : List Nat, (keep t l).get k = if k ∈ l then t.get k else none
  | [] => by simp [keep, T.get_nil]
  | u :: r => by
    unfold keep
    cases h : t.get u with
    | some v =>
      simp only [T.get_set, keep_get t k r]
      by_cases e : k = u
      · subst e; simp [h]
      · simp [e]
    | none =>
      simp only [keep_get t k r]
      by_cases e : k = u
      · subst e; simp [h]
      · simp [e]

theorem loc (hs : ∀ cs b, o.op ≠ .select cs b) (hl : ∀ u ∈ o.looksAt ops, VR β (Opd.ev t (.t u)) (a.tmps.getD u undef)) :
    ∃ (t' : T Value) (a' : Act), TR β t' a'.tmps ∧ (∀ u ∈ o.looksAt ops, t'.get u = t.get u) ∧ execOp a'.eval o = execOp a.eval o := by
  refine ⟨keep t (o.looksAt ops), { a with tmps := (Array.range a.tmps.size).map fun k => if k ∈ o.looksAt ops then a.tmps.getD k undef else undef }, fun k => ?_, fun u hu => by rw [keep_get, if_pos hu], ?_⟩
  · rw [keep_get]
    by_cases hk : k ∈ o.looksAt ops
    · rw [if_pos hk]
      have := hl k hk
      have e : ((Array.range a.tmps.size).map fun k => if k ∈ o.looksAt ops then a.tmps.getD k undef else undef).getD k undef = a.tmps.getD k undef := by
        by_cases hlt : k < a.tmps.size
        · simp [hlt, hk]
        · simp [hlt]
      rw [e]; exact this
    · rw [if_neg hk]
      have e : ((Array.range a.tmps.size).map fun k => if k ∈ o.looksAt ops then a.tmps.getD k undef else undef).getD k undef = undef := by
        by_cases hlt : k < a.tmps.size
        · simp [hlt, hk]
        · simp [hlt]
      rw [e]; exact VR.undef
  · refine execOp_congr o hs fun x hx => ?_
    cases x with
    | tmp u =>
      have hu : u ∈ o.looksAt ops := List.mem_append_left _ (List.mem_filterMap.2 ⟨.tmp u, by simpa using hx, rfl⟩)
      simp only [Act.eval]
      by_cases hlt : u < a.tmps.size
      · simp [hlt, hu]
      · simp [hlt]
    | _ => rfl

theorem cOp_select (h : cOp P o = some cop) : ∀ cs b, o.op ≠ .select cs b := by
  intro cs b he
  simp [cOp, he] at h

/-- What an operation comes to. -/
def RunOk (P : Program) (ρ : Operand → Value) (o : Oper) (w : World) (R : Value → World → Prop) : Prop :=
  match (execOp ρ o).run P w with
  | .ok (.value v) w' => R v w'
  | .ok .skip w' => R undef w'
  | .ok (.enter f args) w' => Calls P f args w' fun e w'' => ∃ v, e = .returned v ∧ R v w''
  | _ => False

theorem RunOk.wp {ρ : Operand → Value} {R : Value → World → Prop} {K : Act → World → Prop} {Q : Exit → Act → World → Prop} (h : RunOk P ρ o w R) (he : execOp a.eval o = execOp ρ o)
    (hK : ∀ v' w', R v' w' → K (a.put o.dst v') w') : o.wp P a w K Q := by
  unfold Oper.wp
  rw [he]
  unfold RunOk at h
  split at h
  · rename_i v' w' hr; rw [hr]; exact hK _ _ h
  · rename_i w' hr; rw [hr]; exact hK _ _ h
  · rename_i f args w' hr
    rw [hr]
    refine Calls.mono h fun e w'' hh => ?_
    obtain ⟨v', rfl, hR⟩ := hh
    exact hK _ _ hR
  · exact h.elim

theorem RunOk.mono {ρ : Operand → Value} {R R' : Value → World → Prop} (h : RunOk P ρ o w R) (hK : ∀ v' w', R v' w' → R' v' w') : RunOk P ρ o w R' := by
  unfold RunOk at *
  split at h
  · exact hK _ _ h
  · exact hK _ _ h
  · refine Calls.mono h fun e w'' hh => ?_
    obtain ⟨v', rfl, hR⟩ := hh
    exact ⟨v', rfl, hK _ _ hR⟩
  · exact h.elim

theorem runOk_value {ρ : Operand → Value} {R : Value → World → Prop} {v' : Value} {w' : World} (h : (execOp ρ o).run P w = .ok (.value v') w') (hR : R v' w') : RunOk P ρ o w R := by
  unfold RunOk; rw [h]; exact hR

def CallOk (P : Program) (base : Nat) (w0 : World) (call : CallF) : Prop :=
  ∀ f args s v s', call f args s = some (v, s') → s.nextId ≤ s'.nextId ∧ (∃ fn, P.funcs[f]? = some fn ∧ fn.name ≠ "runtime.NumGoroutine" ∧ fn.body.isSome = true) ∧
    ∀ β w args', WR base w0 β s w → VRs β args args' →
      Calls P f ⟨args'⟩ w fun e w' => ∃ v' β', e = .returned v' ∧ VR β' v v' ∧ β.le β' ∧ Grow s β β' ∧ WR base w0 β' s' w'

/-- What holds of a value and a world behind an operation. -/
def After (base : Nat) (w0 : World) (β : Bl) (s s' : St) (v v' : Value) (w' : World) : Prop :=
  ∃ β', VR β' v v' ∧ β.le β' ∧ Grow s β β' ∧ WR base w0 β' s' w'

theorem runOk_call {call : CallF} (hcall : CallOk P base w0 call) {f : FuncId} {ρ : Operand → Value} {args args' : List Value} (hw : WR base w0 β s w) (hd : call f args s = some (v, s')) (ha : VRs β args args')
    (hr : (execOp ρ o).run P w = (callFunc f ⟨args'⟩).run P w) : RunOk P ρ o w (After base w0 β s s' v) := by
  obtain ⟨_, ⟨fn, hf, hn, hb⟩, hc⟩ := hcall _ _ _ _ _ hd
  have hrun : (callFunc f ⟨args'⟩).run P w = .ok (.enter f ⟨args'⟩) w := by
    simp [callFunc, program, Sem.run, hf, hn, hb, pure, bind, Sem.bind, Option.isNone_iff_eq_none]
    cases hbb : fn.body <;> simp [hbb] at hb ⊢
  unfold RunOk
  rw [hr, hrun]
  refine Calls.mono (hc β w args' hw ha) fun e w' hh => ?_
  obtain ⟨v', β', rfl, h1, h2, h3, h4⟩ := hh
  exact ⟨v', rfl, β', h1, h2, h3, h4⟩

theorem cOp_callee (h : cOp P o = some cop) (hic : cop.isCall = true) : ∃ c, o.op = .call c ∧ ∀ b, c.callee ≠ .builtin b := by
  have hce : cop.cls = .eff := by cases cop <;> simp_all [COp.isCall, COp.cls]
  have his := cOp_is h
  rw [hce] at his
  cases hop : o.op <;> rw [hop] at his <;> try (simp [Op.is] at his; done)
  case store ty x y =>
    exfalso
    simp only [cOp, hop] at h; cases h2 : sizeT P ty <;> cases hx : cOpd x <;> cases hy : cOpd y <;> simp [h2, hx, hy] at h; subst h; simp [COp.isCall] at hic
  case mapUpdate ty m k u =>
    exfalso
    simp only [cOp, hop, cMapSet] at h
    cases hu : P.underlying ty with
    | none => simp [hu] at h
    | some d =>
      cases d <;> simp [hu] at h
      rename_i kt et
      cases h1 : keyT P kt <;> cases h2 : cOpd m <;> cases h3 : cOpd k <;> cases h4 : cOpd u <;> simp [h1, h2, h3, h4] at h
      subst h; simp [COp.isCall] at hic
  case insert ty m k u =>
    exfalso
    simp only [cOp, hop, cMapSet] at h
    cases hu : P.underlying ty with
    | none => simp [hu] at h
    | some d =>
      cases d <;> simp [hu] at h
      rename_i kt et
      cases h1 : keyT P kt <;> cases h2 : cOpd m <;> cases h3 : cOpd k <;> cases h4 : cOpd u <;> simp [h1, h2, h3, h4] at h
      subst h; simp [COp.isCall] at hic
  case next x b =>
    exfalso
    simp only [cOp, hop] at h
    cases b <;> simp at h
    cases h1 : cOpd x <;> simp [h1] at h
    subst h; simp [COp.isCall] at hic
  case call c =>
    refine ⟨c, rfl, fun b hb => ?_⟩
    have := (builtin_cls (call_args hb hop h)).2
    rw [hic] at this; cases this

theorem cOp_call {f : FuncId} {args : List Opd} (h : cOp P o = some (.call f args)) : ∃ c, o.op = .call c ∧ c.callee = .value (.func f) ∧ cOpds c.args.toList = some args := by
  obtain ⟨c, hop, hno⟩ := cOp_callee h rfl
  refine ⟨c, hop, ?_⟩
  simp only [cOp, hop] at h
  cases hcal : c.callee with
  | builtin b => exact absurd hcal (hno b)
  | value f =>
    simp only [hcal] at h
    cases f <;> simp at h
    · cases h1 : cOpds c.args.toList <;> simp [h1] at h
    · cases h1 : cOpds c.args.toList <;> simp [h1] at h
      obtain ⟨rfl, rfl⟩ := h; exact ⟨rfl, rfl⟩
  | invoke r m => simp [hcal] at h

theorem cOp_callv {x : Opd} {args : List Opd} (h : cOp P o = some (.callv x args)) : ∃ c n, x = .t n ∧ o.op = .call c ∧ c.callee = .value (.tmp n) ∧ cOpds c.args.toList = some args := by
  obtain ⟨c, hop, hno⟩ := cOp_callee h rfl
  simp only [cOp, hop] at h
  cases hcal : c.callee with
  | builtin b => exact absurd hcal (hno b)
  | value f =>
    simp only [hcal] at h
    cases f <;> simp at h
    · cases h1 : cOpds c.args.toList <;> simp [h1] at h
      obtain ⟨rfl, rfl⟩ := h; exact ⟨c, _, rfl, hop, hcal, h1⟩
    · cases h1 : cOpds c.args.toList <;> simp [h1] at h
  | invoke r m => simp [hcal] at h

theorem cOpds_map {args : Array Operand} {xs : List Opd} (h : cOpds args.toList = some xs) (ht : TR β t a.tmps) : ∃ l, args.map a.eval = ⟨l⟩ ∧ VRs β (evs t xs) l := by
  refine ⟨args.toList.map a.eval, ?_, cOpds_eval h ht⟩
  cases args; simp

/-- An operation in a frame of which all is known. -/
theorem step_run {call : CallF} (hcall : CallOk P base w0 call) (h : cOp P o = some cop) (hd : stepOp call t s cop = some (v, s')) (ht : TR β t a.tmps) (hw : WR base w0 β s w) :
    RunOk P a.eval o w (After base w0 β s s' v) := by
  cases hic : cop.isCall with
  | true =>
    cases cop <;> simp [COp.isCall] at hic
    · rename_i f args
      simp only [stepOp] at hd
      obtain ⟨c, hop, hcal, hargs⟩ := cOp_call h
      obtain ⟨l, hl, hv⟩ := cOpds_map hargs ht
      refine runOk_call hcall hw hd hv ?_
      have e : (resolve a.eval c o.type).run P w = .ok { target := .fn (.func f) #[], args := ⟨l⟩ } w := by
        simp [resolve, hcal, hl, Act.eval, Deferred.ofValue]
      simp [execOp, hop, Sem.run_bind, e, Result.andThen, invoke]
    · rename_i x args
      simp only [stepOp] at hd
      obtain ⟨c, n, rfl, hop, hcal, hargs⟩ := cOp_callv h
      obtain ⟨l, hl, hv⟩ := cOpds_map hargs ht
      have hx := ht n
      change VR β (Opd.ev t (.t n)) _ at hx
      split at hd
      · rename_i f fa fb hf
        rw [hf] at hx
        obtain ⟨fa⟩ := fa
        obtain ⟨fb⟩ := fb
        generalize hg : a.tmps.getD n undef = g at hx
        cases hx with
        | func _ _ _ a' b' h1 h2 =>
          refine runOk_call hcall hw hd (args' := a' ++ (l ++ b')) ?_ ?_
          · rw [app_eq, app_eq]; exact h1.append (hv.append h2)
          · have e : (resolve a.eval c o.type).run P w = .ok { target := .fn (.func f) ⟨b'⟩, args := ⟨a'⟩ ++ ⟨l⟩ } w := by
              simp [resolve, hcal, hl, Act.eval, hg, Deferred.ofValue]
            simp [execOp, hop, Sem.run_bind, e, Result.andThen, invoke]
      · cases hd
  | false =>
    have hd : doOp t s cop = some (v, s') := by cases cop <;> simp_all [COp.isCall, stepOp]
    cases hc : cop.cls with
    | pure =>
      obtain ⟨rfl, v', hv, hr⟩ := pure_ok h hc hd ht
      exact runOk_value (hr w) ⟨β, hv, fun _ _ h => h, Grow.refl _ _, hw⟩
    | read =>
      obtain ⟨rfl, v', hv, hr⟩ := read_ok h hc hd ht hw
      exact runOk_value hr ⟨β, hv, fun _ _ h => h, Grow.refl _ _, hw⟩
    | make =>
      obtain ⟨ob, mk, rfl, rfl, hm, hmk⟩ := make_ok h hc hd ht
      obtain ⟨v', w', p, obj, hr, hp, hh, hos, htp, hout, hrel⟩ := hmk w
      have hle := hw.le_add p
      obtain ⟨hv, hor⟩ := hrel (β.add s.nextId p) s.nextId hle (by simp [Bl.add])
      refine runOk_value hr ⟨β.add s.nextId p, hv, hle, fun A q hA => ?_, hw.alloc hp hh hos htp hout (hor _) hm⟩
      unfold Bl.add at hA
      by_cases e : A = s.nextId
      · exact .inr (by omega)
      · simp [e] at hA; exact .inl hA
    | eff =>
      obtain ⟨r, v', w', β', hr, hv, h1, h2, h3, h4⟩ := eff_ok h hc hic hd ht hw
      unfold RunOk
      rw [hr]
      rcases hv with rfl | ⟨rfl, rfl⟩
      · exact ⟨β', h1, h2, h3, h4⟩
      · exact ⟨β', h1, h2, h3, h4⟩
end
end Go.Ev
end

section
set_option linter.unusedSimpArgs false
set_option linter.unusedVariables false
namespace Go.Ev
open Go _root_.Ev Go.RowKit

section
variable {P : Program} {β : Bl} {t t' : T Value} {s s' : St} {a : Act} {v : Value} {cop : COp} {base : Nat} {w0 w : World} {ops : Array Oper} {o : Oper} {call : CallF}

theorem cOper_cases (P : Program) (ops : Array Oper) (o : Oper) : (cOper P ops o = { dst := o.dst, op := .bad, guard := none }) ∨
    ∃ g, cOper P ops o = { dst := o.dst, op := (cOp P o).getD .bad, guard := g } ∧ (o.guard = none ∧ g = none ∨ ∃ j w d, o.guard = some (j, w) ∧ (ops[j]?).bind (·.dst) = some d ∧ g = some (d, w)) := by
  unfold cOper
  cases hg : o.guard with
  | none => exact .inr ⟨none, rfl, .inl ⟨rfl, rfl⟩⟩
  | some jw =>
    obtain ⟨j, w⟩ := jw
    simp only []
    cases hd : (ops[j]?).bind (·.dst) with
    | none => exact .inl rfl
    | some d => exact .inr ⟨some (d, w), rfl, .inr ⟨j, w, d, rfl, hd, rfl⟩⟩

theorem cOper_dst : (cOper P ops o).dst = o.dst := by
  rcases cOper_cases P ops o with h | ⟨g, h, _⟩ <;> rw [h]

theorem stepOp_bad : stepOp call t s .bad = none := rfl

/-- An operation that the evaluator has done is one that it knows. -/
theorem cOper_some {r : Value × St} (h : stepOp call t s (cOper P ops o).op = some r) : cOp P o = some (cOper P ops o).op := by
  rcases cOper_cases P ops o with e | ⟨g, e, _⟩
  · rw [e, stepOp_bad] at h; cases h
  · rw [e] at h ⊢
    cases hc : cOp P o with
    | none => rw [hc] at h; simp [stepOp_bad] at h
    | some c => simp

theorem vr_bool {x y : Value} (h : VR β x y) (b : Bool) : y = .bool b ↔ x = .bool b := by
  cases h <;> simp

theorem getD_bool {l : Array Value} {k : Nat} {b : Bool} : l.getD k undef = .bool b ↔ l[k]? = some (.bool b) := by
  by_cases h : k < l.size
  · simp [h]
  · simp [h, undef]

/-- The guard. -/
theorem wanted_ok (hne : (cOper P ops o).op ≠ .bad ∨ (cOper P ops o).guard ≠ none) (hl : ∀ u ∈ o.looksAt ops, VR β (Opd.ev t (.t u)) (a.tmps.getD u undef)) :
    wanted t (cOper P ops o).guard = Region.wanted o (yielded ops a.tmps) := by
  rcases cOper_cases P ops o with e | ⟨g, e, hg⟩
  · rw [e] at hne; simp at hne
  · rw [e]
    simp only []
    rcases hg with ⟨h1, h2⟩ | ⟨j, w, d, h1, h2, h3⟩
    · subst h2; simp [wanted, Region.wanted, h1]
    · subst h3
      have hd : d ∈ o.looksAt ops := by simp [Oper.looksAt, h1, h2]
      have hv := hl d hd
      simp only [Region.wanted, h1, yielded, h2, Option.bind_some]
      have hb : ∀ b, a.tmps[d]? = some (.bool b) ↔ Opd.ev t (.t d) = .bool b := fun b => by rw [← getD_bool]; exact vr_bool hv b
      have ht : ∀ b, Opd.ev t (.t d) = .bool b ↔ t.get d = some (.bool b) := fun b => by
        simp only [Opd.ev]
        cases t.get d with
        | none => simp [undefV]
        | some x => simp
      simp only [wanted]
      cases hget : t.get d with
      | none =>
        have : ∀ b, a.tmps[d]? ≠ some (.bool b) := fun b hh => by have := (ht b).1 ((hb b).1 hh); rw [hget] at this; cases this
        cases hk : a.tmps[d]? with
        | none => simp [hk]
        | some x =>
          rw [hk] at this
          cases x with
          | bool b => exact absurd rfl (this b)
          | _ => simp [hk]
      | some x =>
        by_cases hx : ∃ b, x = .bool b
        · obtain ⟨b, rfl⟩ := hx
          rw [(hb b).2 ((ht b).2 hget)]
          cases w <;> cases b <;> simp [boolXor]
        · have : ∀ b, a.tmps[d]? ≠ some (.bool b) := fun b hh => by
            have := (ht b).1 ((hb b).1 hh); rw [hget] at this; cases this; exact hx ⟨b, rfl⟩
          cases hk : a.tmps[d]? with
          | none => cases x <;> simp [hk] at hx ⊢
          | some y =>
            rw [hk] at this
            cases y with
            | bool b => exact absurd rfl (this b)
            | _ => cases x <;> simp [hk] at hx ⊢

/-- What a piece of code leaves. -/
def Stay (base : Nat) (w0 : World) (β : Bl) (s : St) (a : Act) (t' : T Value) (s' : St) (a' : Act) (w' : World) : Prop :=
  ∃ β', TR β' t' a'.tmps ∧ WR base w0 β' s' w' ∧ β.le β' ∧ Grow s β β' ∧ a'.tmps.size = a.tmps.size ∧ a'.defers = a.defers

theorem Grow.trans {β' β'' : Bl} (h : Grow s β β') (h' : Grow s' β' β'') (hn : s.nextId ≤ s'.nextId) : Grow s β β'' := fun A p hA => by
  rcases h' A p hA with h1 | h1
  · exact h A p h1
  · exact .inr (Nat.le_trans hn h1)

theorem Stay.trans {β' : Bl} {t'' : T Value} {s'' : St} {a' a'' : Act} {w'' : World} (hle : β.le β') (hg : Grow s β β') (hn : s.nextId ≤ s'.nextId) (hsz : a'.tmps.size = a.tmps.size) (hdf : a'.defers = a.defers)
    (h : Stay base w0 β' s' a' t'' s'' a'' w'') : Stay base w0 β s a t'' s'' a'' w'' := by
  obtain ⟨β'', h1, h2, h3, h4, h5, h6⟩ := h
  exact ⟨β'', h1, h2, fun A p hA => h3 _ _ (hle _ _ hA), hg.trans h4 hn, h5.trans hsz, h6.trans hdf⟩

theorem put_size (a : Act) (d : Option Tmp) (v : Value) : (a.put d v).tmps.size = a.tmps.size := by cases d <;> simp [Act.put]
theorem put_defers (a : Act) (d : Option Tmp) (v : Value) : (a.put d v).defers = a.defers := by cases d <;> rfl

theorem TR.act {d : Option Tmp} (h : TR β t a.tmps) (hd : ∀ k, d = some k → k < a.tmps.size) {v v' : Value} (hv : VR β v v') : TR β (Ev.put t d v) (a.put d v').tmps := by
  have := TR.put h hd hv
  cases d <;> exact this

theorem stepOp_next (hcall : CallOk P base w0 call) (h : stepOp call t s cop = some (v, s')) : s.nextId ≤ s'.nextId := by
  cases cop
  case call f args => exact (hcall _ _ _ _ _ h).1
  case callv x args =>
    simp only [stepOp] at h
    split at h
    · exact (hcall _ _ _ _ _ h).1
    · cases h
  all_goals exact doOp_next (t := t) (by simpa only [stepOp] using h)

theorem runOps_next (hcall : CallOk P base w0 call) : ∀ (l : List CE) (t : T Value) (s : St), runOps call l t s = some (t', s') → s.nextId ≤ s'.nextId
  | [], t, s, h => by simp [runOps] at h; rw [h.2]; exact Nat.le_refl _
  | e :: r, t, s, h => by
    simp only [runOps, stepOpF_eq, forceT_eq, forceV_eq, forceS_eq] at h
    split at h
    · split at h
      · rename_i v s1 hs
        exact Nat.le_trans (stepOp_next hcall hs) (runOps_next hcall r _ _ h)
      · cases h
    · exact runOps_next hcall r _ _ h

theorem runOps_ok (hcall : CallOk P base w0 call) {Q : Exit → Act → World → Prop} : ∀ (l : List Oper) (t : T Value) (s : St) (β : Bl) (a : Act) (w : World), (∀ o ∈ l, ∀ d, o.dst = some d → d < a.tmps.size) →
    runOps call (l.map (cOper P ops)) t s = some (t', s') → TR β t a.tmps → WR base w0 β s w → (∀ a' w', Stay base w0 β s a t' s' a' w' → Q .normal a' w') → wpList P ops Q l a w
  | [], t, s, β, a, w, _, h, ht, hw, hQ => by
    simp [runOps] at h
    obtain ⟨rfl, rfl⟩ := h
    exact hQ a w ⟨β, ht, hw, fun _ _ h => h, Grow.refl _ _, rfl, rfl⟩
  | o :: l, t, s, β, a, w, hdst, h, ht, hw, hQ => by
    have hd := hdst o (List.mem_cons_self ..)
    have hrest : ∀ (a' : Act), a'.tmps.size = a.tmps.size → ∀ o ∈ l, ∀ d, o.dst = some d → d < a'.tmps.size := fun a' e o ho d hd => by rw [e]; exact hdst o (List.mem_cons_of_mem _ ho) d hd
    simp only [List.map_cons, runOps, stepOpF_eq, forceT_eq, forceV_eq, forceS_eq, cOper_dst] at h
    simp only [wpList]
    cases hwt : wanted t (cOper P ops o).guard with
    | true =>
      simp only [hwt] at h
      split at h
      · rename_i v s1 hs
        have hop := cOper_some hs
        have hne : (cOper P ops o).op ≠ .bad ∨ (cOper P ops o).guard ≠ none := .inl (by intro e; rw [e, stepOp_bad] at hs; cases hs)
        rw [wanted_ok hne (fun u _ => ht u)] at hwt
        simp only [hwt, if_true]
        refine .inl ((step_run hcall hop hs ht hw).wp rfl fun v' w' hh => ?_)
        obtain ⟨β', h1, h2, h3, h4⟩ := hh
        refine runOps_ok hcall l _ s1 β' _ w' (hrest _ (put_size ..)) h ((ht.mono h2).act hd h1) h4 fun a' w'' hh => hQ a' w'' ?_
        exact hh.trans h2 h3 (stepOp_next hcall hs) (put_size ..) (put_defers ..)
      · cases h
    | false =>
      simp only [hwt] at h
      have hg : (cOper P ops o).guard ≠ none := by intro e; rw [e] at hwt; cases hwt
      rw [wanted_ok (.inr hg) (fun u _ => ht u)] at hwt
      simp only [hwt, Bool.false_eq_true, if_false]
      refine runOps_ok hcall l _ s β _ w (hrest _ (put_size ..)) h (ht.act hd VR.undef) hw fun a' w'' hh => hQ a' w'' ?_
      exact hh.trans (fun _ _ h => h) (Grow.refl _ _) (Nat.le_refl _) (put_size ..) (put_defers ..)
end
end Go.Ev
end

section
set_option linter.unusedSimpArgs false
set_option linter.unusedVariables false
namespace Go.Ev
open Go _root_.Ev Go.RowKit

def upd {α : Type} (f : Nat → α) (x : Nat) (v : α) : Nat → α := fun z => if z = x then v else f z

theorem upd_same {α : Type} (f : Nat → α) (x : Nat) (v : α) : upd f x v x = v := by simp [upd]
theorem upd_ne {α : Type} (f : Nat → α) {x z : Nat} (v : α) (h : z ≠ x) : upd f x v z = f z := by simp [upd, h]

/-- What is known of a region's table. -/
structure DrOk (P : Program) (ops : Array Oper) (d : DR) (size : Nat) : Prop where
  n : d.n = ops.size
  c : ∀ (i : Nat) (o : Oper), ops[i]? = some o → d.c i = cOper P ops o
  dst : ∀ (i : Nat) (o : Oper), ops[i]? = some o → ∀ u, o.dst = some u → u < size
  w : ∀ (i : Nat) (o : Oper), ops[i]? = some o → ∀ p, (d.w i).testBit p = true ↔ ∃ e ∈ o.after, Region.binds .any e = true ∧ e.on = p
  l : ∀ (i : Nat) (o : Oper), ops[i]? = some o → d.l i = o.looksAt ops
  tmps : ∀ i, i < d.n → ∀ u ∈ (d.c i).op.tmps, u ∈ d.l i
  b : ∀ i, i < d.n → ∀ p, (d.b i).testBit p = true → (d.w i).testBit p = true ∨ ∃ q, q < d.n ∧ (d.w i).testBit q = true ∧ (d.b q).testBit p = true
  pair : ∀ i, i < d.n → ∀ j, j < d.n → i ≠ j → ∀ t, (d.c i).dst = some t → (d.c j).dst ≠ some t ∧ (t ∈ d.l j → (d.b j).testBit i = true ∨ (d.b i).testBit j = true)

/-- The order of what the evaluator has done, and what of it the machine has done. -/
def Good (d : DR) : List Nat → Prop
  | [] => True
  | x :: r => (∀ p, (d.w x).testBit p = true → p ∈ r) ∧ Good d r

structure Ord (d : DR) (dl : List Nat) (lis : Nat → Bool) : Prop where
  sub : ∀ i, lis i = true → i ∈ dl
  lt : ∀ i ∈ dl, i < d.n
  down : ∀ i, lis i = true → ∀ p, (d.b i).testBit p = true → lis p = true
  anc : ∀ i ∈ dl, ∀ p, (d.b i).testBit p = true → p ∈ dl
  good : Good d dl

theorem Ord.add {d : DR} {dl : List Nat} {lis : Nat → Bool} (h : Ord d dl lis) {x : Nat} (hx : x < d.n) (hw : ∀ p, (d.w x).testBit p = true → p ∈ dl) (hb : ∀ p, (d.b x).testBit p = true → p ∈ dl) :
    Ord d (x :: dl) lis := by
  refine ⟨fun i hi => List.mem_cons_of_mem _ (h.sub i hi), fun i hi => ?_, h.down, fun i hi p hp => ?_, hw, h.good⟩
  · rcases List.mem_cons.1 hi with rfl | hi
    · exact hx
    · exact h.lt i hi
  · rcases List.mem_cons.1 hi with rfl | hi
    · exact List.mem_cons_of_mem _ (hb p hp)
    · exact List.mem_cons_of_mem _ (h.anc i hi p hp)

theorem Ord.done {d : DR} {dl : List Nat} {lis : Nat → Bool} (h : Ord d dl lis) {y : Nat} (hy : y ∈ dl) (hb : ∀ p, (d.b y).testBit p = true → lis p = true) : Ord d dl (upd lis y true) := by
  refine ⟨fun i hi => ?_, h.lt, fun i hi p hp => ?_, h.anc, h.good⟩
  · by_cases e : i = y
    · rw [e]; exact hy
    · rw [upd_ne _ _ e] at hi; exact h.sub i hi
  · by_cases ep : p = y
    · rw [ep, upd_same]
    · rw [upd_ne _ _ ep]
      by_cases e : i = y
      · subst e; exact hb p hp
      · rw [upd_ne _ _ e] at hi; exact h.down i hi p hp

/-- If not all is done, something may be done. -/
theorem Good.free {d : DR} {lis : Nat → Bool} : ∀ {dl : List Nat}, Good d dl → (∃ y ∈ dl, lis y = false) → ∃ y ∈ dl, lis y = false ∧ ∀ p, (d.w y).testBit p = true → lis p = true
  | [], _, h => by obtain ⟨y, hy, _⟩ := h; cases hy
  | x :: r, hg, h => by
    by_cases hr : ∃ y ∈ r, lis y = false
    · obtain ⟨y, hy, h1⟩ := Good.free hg.2 hr
      exact ⟨y, List.mem_cons_of_mem _ hy, h1⟩
    · obtain ⟨y, hy, h1⟩ := h
      rcases List.mem_cons.1 hy with rfl | hy
      · refine ⟨y, hy, h1, fun p hp => ?_⟩
        cases hl : lis p with
        | true => rfl
        | false => exact absurd ⟨p, hg.1 p hp, hl⟩ hr
      · exact absurd ⟨y, hy, h1⟩ hr

/-- The temporaries: the evaluator's and the machine's. -/
structure Tm (d : DR) (dl : List Nat) (t : T Value) (val : Nat → Value) (lis : Nat → Bool) (ty : Nat → T Value) (β : Bl) (tm : Array Value) : Prop where
  tmp : ∀ u, (∀ z ∈ dl, (d.c z).dst = some u → lis z = true) → VR β (Opd.ev t (.t u)) (tm.getD u undef)
  vals : ∀ z ∈ dl, ∀ u, (d.c z).dst = some u → t.get u = some (val z)
  pt : ∀ y ∈ dl, lis y = false → ∀ u ∈ d.l y, (∀ z, z < d.n → (d.c z).dst = some u → (d.b y).testBit z = true → lis z = true) → VR β (Opd.ev (ty y) (.t u)) (tm.getD u undef)
  pv : ∀ y ∈ dl, lis y = false → ∀ u ∈ d.l y, ∀ z, z < d.n → (d.c z).dst = some u → (d.b y).testBit z = true → Opd.ev (ty y) (.t u) = val z

theorem get_put (t : T Value) (dst : Option Nat) (v : Value) (u : Nat) : (put t dst v).get u = if dst = some u then some v else t.get u := by
  cases dst with
  | none => simp [put]
  | some d =>
    simp only [put, T.get_set, Option.some.injEq]
    by_cases e : u = d
    · subst e; simp
    · simp [e, Ne.symm e]

theorem ev_put (t : T Value) (dst : Option Nat) (v : Value) (u : Nat) : Opd.ev (put t dst v) (.t u) = if dst = some u then v else Opd.ev t (.t u) := by
  simp only [Opd.ev, get_put]
  by_cases e : dst = some u <;> simp [e]

section
variable {P : Program} {ops : Array Oper} {d : DR} {size : Nat} {dl : List Nat} {t : T Value} {val : Nat → Value} {lis : Nat → Bool} {ty : Nat → T Value} {β β' : Bl} {tm : Array Value}

theorem Tm.add (hk : DrOk P ops d size) (ho : Ord d dl lis) (h : Tm d dl t val lis ty β tm) {x : Nat} (hx : x < d.n) (hn : x ∉ dl) (hb : ∀ p, (d.b x).testBit p = true → p ∈ dl) (v : Value) :
    Tm d (x :: dl) (put t (d.c x).dst v) (upd val x v) lis (upd ty x t) β tm := by
  have hne : ∀ z ∈ dl, z ≠ x := fun z hz e => hn (e ▸ hz)
  have hlx : lis x = false := by
    cases hl : lis x with
    | false => rfl
    | true => exact absurd (ho.sub x hl) hn
  refine ⟨fun u hu => ?_, fun z hz u hu => ?_, fun y hy hly u hu hz => ?_, fun y hy hly u hu z hz hd hbz => ?_⟩
  · rw [ev_put]
    by_cases e : (d.c x).dst = some u
    · have := hu x (List.mem_cons_self ..) e
      rw [hlx] at this; cases this
    · rw [if_neg e]
      exact h.tmp u fun z hz hdz => hu z (List.mem_cons_of_mem _ hz) hdz
  · rw [get_put]
    rcases List.mem_cons.1 hz with rfl | hz
    · rw [if_pos hu, upd_same]
    · have hzn := ho.lt z hz
      rw [if_neg (hk.pair z hzn x hx (hne z hz) u hu).1, upd_ne _ _ (hne z hz)]
      exact h.vals z hz u hu
  · rcases List.mem_cons.1 hy with rfl | hy
    · rw [upd_same]
      refine h.tmp u fun z hz' hdz => ?_
      rcases (hk.pair z (ho.lt z hz') y hx (hne z hz') u hdz).2 hu with h1 | h1
      · exact hz z (ho.lt z hz') hdz h1
      · exact absurd (ho.anc z hz' y h1) hn
    · rw [upd_ne _ _ (hne y hy)]
      exact h.pt y hy hly u hu hz
  · rcases List.mem_cons.1 hy with rfl | hy
    · rw [upd_same]
      have hzd := hb z hbz
      rw [upd_ne _ _ (hne z hzd)]
      simp only [Opd.ev, h.vals z hzd u hd]
    · rw [upd_ne _ _ (hne y hy), upd_ne _ _ (hne z (ho.anc y hy z hbz))]
      exact h.pv y hy hly u hu z hz hd hbz

theorem getD_put (tm : Array Value) (dst : Option Nat) (v : Value) (hs : ∀ u, dst = some u → u < tm.size) (u : Nat) :
    (match dst with | some d => tm.setIfInBounds d v | none => tm).getD u undef = if dst = some u then v else tm.getD u undef := by
  cases dst with
  | none => simp
  | some d =>
    have := hs d rfl
    by_cases e : d = u
    · subst e; simp [this]
    · simp [e, Array.getElem?_setIfInBounds_ne e]

theorem Tm.done (hk : DrOk P ops d size) (ho : Ord d dl lis) (h : Tm d dl t val lis ty β tm) {y : Nat} (hy : y ∈ dl) (hly : lis y = false) (hb : ∀ p, (d.b y).testBit p = true → lis p = true)
    {v' : Value} (hv : VR β' (val y) v') (hle : β.le β') (hs : ∀ u, (d.c y).dst = some u → u < tm.size) :
    Tm d dl t val (upd lis y true) ty β' (match (d.c y).dst with | some d => tm.setIfInBounds d v' | none => tm) := by
  have hyn := ho.lt y hy
  refine ⟨fun u hu => ?_, h.vals, fun x hx hlx u hu hz => ?_, fun x hx hlx u hu z hz hd hbz => ?_⟩
  · rw [getD_put _ _ _ hs]
    by_cases e : (d.c y).dst = some u
    · rw [if_pos e]
      simp only [Opd.ev, h.vals y hy u e]
      exact hv
    · rw [if_neg e]
      refine (h.tmp u fun z hz hdz => ?_).mono hle
      have := hu z hz hdz
      by_cases ez : z = y
      · subst ez; exact absurd hdz e
      · rwa [upd_ne _ _ ez] at this
  · have hxy : x ≠ y := fun e => by subst e; rw [upd_same] at hlx; cases hlx
    rw [upd_ne _ _ hxy] at hlx
    rw [getD_put _ _ _ hs]
    by_cases e : (d.c y).dst = some u
    · rw [if_pos e]
      rcases (hk.pair y hyn x (ho.lt x hx) (Ne.symm hxy) u e).2 hu with h1 | h1
      · rw [h.pv x hx hlx u hu y hyn e h1]; exact hv
      · have := hb x h1; rw [hlx] at this; cases this
    · rw [if_neg e]
      refine (h.pt x hx hlx u hu fun z hzn hdz hbz => ?_).mono hle
      have := hz z hzn hdz hbz
      by_cases ez : z = y
      · subst ez; exact absurd hdz e
      · rwa [upd_ne _ _ ez] at this
  · have hxy : x ≠ y := fun e => by subst e; rw [upd_same] at hlx; cases hlx
    rw [upd_ne _ _ hxy] at hlx
    exact h.pv x hx hlx u hu z hz hd hbz

theorem Tm.mono (h : Tm d dl t val lis ty β tm) (hle : β.le β') : Tm d dl t val lis ty β' tm :=
  ⟨fun u hu => (h.tmp u hu).mono hle, h.vals, fun y hy hl u hu hz => (h.pt y hy hl u hu hz).mono hle, h.pv⟩

/-- What an effect looks at is all there. -/
theorem Tm.looks (hk : DrOk P ops d size) (ho : Ord d dl lis) (h : Tm d dl t val lis ty β tm) {e : Nat} (he : e < d.n) (hn : e ∉ dl) (hb : ∀ p, (d.b e).testBit p = true → lis p = true) {u : Nat} (hu : u ∈ d.l e) :
    VR β (Opd.ev t (.t u)) (tm.getD u undef) := by
  refine h.tmp u fun z hz hdz => ?_
  rcases (hk.pair z (ho.lt z hz) e he (fun e' => hn (e' ▸ hz)) u hdz).2 hu with h1 | h1
  · exact hb z h1
  · exact absurd (ho.anc z hz e h1) hn
end
end Go.Ev
end

section
set_option linter.unusedSimpArgs false
set_option linter.unusedVariables false
namespace Go.Ev
open Go _root_.Ev Go.RowKit

/-- An operation that the machine may still do: what it comes to. -/
def Late (d : DR) (opens : List Open) (β : Bl) (s : St) (ty : T Value) (val : Value) (id : Option Nat) (y : Nat) : Prop :=
  match (d.c y).op.cls with
  | .pure => ∃ s1 s2, doOp ty s1 (d.c y).op = some (val, s2)
  | .read => (∃ s2, doOp ty s (d.c y).op = some (val, s2)) ∧ Open.read ty (d.c y).op val (d.lat y) ∈ opens
  | .make => ∃ s1 s2 ob, doOp ty s1 (d.c y).op = some (val, s2) ∧ s2.obj s1.nextId = some ob ∧ s.obj s1.nextId = some ob ∧ β s1.nextId = none ∧ id = some s1.nextId ∧ Open.make s1.nextId ob (d.lat y) ∈ opens
  | .eff => False

def Pend (d : DR) (k : Nat) (opens : List Open) (β : Bl) (s : St) (ty : T Value) (val : Value) (id : Option Nat) (y : Nat) : Prop :=
  d.eff y = false ∧ k ≤ d.lat y ∧ (wanted ty (d.c y).guard = true ∧ Late d opens β s ty val id y ∨ wanted ty (d.c y).guard = false ∧ val = undefV)

structure Inv (base : Nat) (w0 : World) (d : DR) (β0 : Bl) (s0 : St) (a0 : Act) (dl : List Nat) (k : Nat) (opens : List Open) (t : T Value) (s : St) (val : Nat → Value) (ty : Nat → T Value) (idf : Nat → Option Nat)
    (lis : Array Bool) (β : Bl) (a : Act) (w : World) : Prop where
  size : lis.size = d.n
  ord : Ord d dl (fun i => lis.getD i false)
  tm : Tm d dl t val (fun i => lis.getD i false) ty β a.tmps
  wr : WR base w0 β s w
  ids : ∀ y ∈ dl, ∀ A, idf y = some A → s0.nextId ≤ A ∧ A < s.nextId ∧ ∀ z ∈ dl, idf z = some A → z = y
  pend : ∀ y ∈ dl, lis.getD y false = false → Pend d k opens β s (ty y) (val y) (idf y) y
  le : β0.le β
  grow : Grow s0 β0 β
  nx : s0.nextId ≤ s.nextId
  asz : a.tmps.size = a0.tmps.size
  adf : a.defers = a0.defers

section
variable {P : Program} {ops : Array Oper} {d : DR} {base : Nat} {w0 : World} {β0 : Bl} {s0 : St} {a0 : Act} {dl : List Nat} {k : Nat} {opens : List Open} {t : T Value} {s : St} {val : Nat → Value} {ty : Nat → T Value} {idf : Nat → Option Nat}
  {lis : Array Bool} {β : Bl} {a : Act} {w : World}

theorem stepOp_of_doOp {call : CallF} {cop : COp} {r : Value × St} (h : doOp t s cop = some r) : stepOp call t s cop = some r := by
  cases cop <;> first | exact h | (simp [doOp] at h; done)

theorem getD_set (lis : Array Bool) {y : Nat} (hy : y < lis.size) : (fun i => (lis.setIfInBounds y true).getD i false) = upd (fun i => lis.getD i false) y true := by
  funext i
  by_cases e : i = y
  · subst e; rw [upd_same]; simp [hy]
  · rw [upd_ne _ _ e]; exact getD_set_ne false (Ne.symm e)

theorem act_put (a : Act) (dst : Option Tmp) (v : Value) : (a.put dst v).tmps = (match dst with | some d => a.tmps.setIfInBounds d v | none => a.tmps) := by cases dst <;> rfl

/-- What the machine may do, and what it waits for is done. -/
theorem ready_spec (hk : DrOk P ops d a.tmps.size) (h : Inv base w0 d β0 s0 a0 dl k opens t s val ty idf lis β a w) {y : Nat} (hr : y ∈ Region.ready .any ops lis) :
    lis.getD y false = false ∧ ∃ o, ops[y]? = some o ∧ y < d.n ∧ (∀ p, (d.w y).testBit p = true → lis.getD p false = true) ∧ ∀ p, (d.b y).testBit p = true → lis.getD p false = true := by
  obtain ⟨h1, o, ho, hall⟩ := mem_ready.1 hr
  have hlt : y < ops.size := (Array.getElem?_eq_some_iff.1 ho).1
  have hlt' : y < lis.size := by rw [h.size, hk.n]; exact hlt
  have hyn : y < d.n := by rw [hk.n]; exact hlt
  have hw : ∀ p, (d.w y).testBit p = true → lis.getD p false = true := fun p hp => by
    obtain ⟨e, he, hb, rfl⟩ := (hk.w y o ho p).1 hp
    exact hall e he hb
  refine ⟨by simpa [hlt'] using h1, o, ho, hyn, hw, fun p hp => ?_⟩
  rcases hk.b y hyn p hp with h2 | ⟨q, hq, h2, h3⟩
  · exact hw p h2
  · exact h.ord.down q (hw q h2) p h3

/-- One that waits is done: what is kept. -/
theorem Inv.done (hk : DrOk P ops d a.tmps.size) (h : Inv base w0 d β0 s0 a0 dl k opens t s val ty idf lis β a w) {y : Nat} {o : Oper} (hy : y ∈ dl) (hly : lis.getD y false = false) (ho : ops[y]? = some o)
    (hb : ∀ p, (d.b y).testBit p = true → lis.getD p false = true) {β' : Bl} {v' : Value} {w' : World} (hv : VR β' (val y) v') (hle : β.le β') (hw : WR base w0 β' s w')
    (hnew : ∀ A p, β' A = some p → β A = some p ∨ idf y = some A) :
    Inv base w0 d β0 s0 a0 dl k opens t s val ty idf (lis.setIfInBounds y true) β' (a.put o.dst v') w' := by
  have hyn : y < d.n := h.ord.lt y hy
  have hlt : y < lis.size := by rw [h.size]; exact hyn
  have hdst : (d.c y).dst = o.dst := by rw [hk.c y o ho, cOper_dst]
  refine ⟨by simp [h.size], ?_, ?_, hw, h.ids, fun z hz hlz => ?_, fun A p hA => hle _ _ (h.le _ _ hA), fun A p hA => ?_, h.nx, (put_size ..).trans h.asz, (put_defers ..).trans h.adf⟩
  · rw [getD_set lis hlt]; exact h.ord.done hy hb
  · rw [getD_set lis hlt, act_put, ← hdst]
    exact h.tm.done hk h.ord hy hly hb hv hle (fun u hu => hk.dst y o ho u (by rw [← hdst]; exact hu))
  · have hzy : z ≠ y := fun e => by
      subst e
      have := congrFun (getD_set lis hlt) z
      simp only [upd_same] at this
      rw [this] at hlz; cases hlz
    have hlz' : lis.getD z false = false := by rw [← getD_set_ne (i := y) false (Ne.symm hzy)]; exact hlz
    obtain ⟨h1, h2, h3⟩ := h.pend z hz hlz'
    refine ⟨h1, h2, h3.imp (fun ⟨h3, h4⟩ => ⟨h3, ?_⟩) id⟩
    unfold Late at h4 ⊢
    split
    · rename_i hc; rw [hc] at h4; exact h4
    · rename_i hc; rw [hc] at h4; exact h4
    · rename_i hc
      rw [hc] at h4
      obtain ⟨s1, s2, ob, h5, h6, h7, h8, h9, h10⟩ := h4
      refine ⟨s1, s2, ob, h5, h6, h7, ?_, h9, h10⟩
      cases hb' : β' s1.nextId with
      | none => rfl
      | some p =>
        rcases hnew _ _ hb' with h11 | h11
        · rw [h8] at h11; cases h11
        · exact absurd ((h.ids y hy _ h11).2.2 z hz h9) hzy
    · rename_i hc; rw [hc] at h4; exact h4
  · rcases hnew A p hA with h1 | h1
    · exact h.grow A p h1
    · exact .inr (h.ids y hy A h1).1

/-- The machine does one that waits. -/
theorem Inv.run (hk : DrOk P ops d a.tmps.size) (h : Inv base w0 d β0 s0 a0 dl k opens t s val ty idf lis β a w) {y : Nat} (hy : y ∈ dl) (hr : y ∈ Region.ready .any ops lis) {K : Act → World → Prop} {Q : Exit → Act → World → Prop}
    (hK : ∀ β' a' w', a'.tmps.size = a.tmps.size → Inv base w0 d β0 s0 a0 dl k opens t s val ty idf (lis.setIfInBounds y true) β' a' w' → K a' w') : wpOp P ops Q y K a w := by
  obtain ⟨hly, o, ho, hyn, hwt, hb⟩ := ready_spec hk h hr
  have hc := hk.c y o ho
  have hl : ∀ u ∈ o.looksAt ops, VR β (Opd.ev (ty y) (.t u)) (a.tmps.getD u undef) := fun u hu =>
    h.tm.pt y hy hly u (by rw [hk.l y o ho]; exact hu) fun z hz hdz hbz => hb z hbz
  have htm : ∀ u ∈ (d.c y).op.tmps, u ∈ o.looksAt ops := fun u hu => by rw [← hk.l y o ho]; exact hk.tmps y hyn u hu
  obtain ⟨hne, hlat, hcase⟩ := h.pend y hy hly
  unfold wpOp
  simp only [ho]
  rcases hcase with ⟨hwa, hlate⟩ | ⟨hwa, hval⟩
  · have hsome : ∀ {s1 s2 : St}, doOp (ty y) s1 (d.c y).op = some (val y, s2) → (cOper P ops o).op ≠ .bad ∧ cOp P o = some (d.c y).op := fun {s1 s2} hd => by
      have h1 := stepOp_of_doOp (call := fun _ _ _ => none) hd
      rw [hc] at h1 ⊢
      refine ⟨fun e => ?_, cOper_some h1⟩
      rw [e, stepOp_bad] at h1
      cases h1
    unfold Late at hlate
    split at hlate
    · rename_i hcls
      obtain ⟨s1, s2, hd⟩ := hlate
      obtain ⟨hbad, hcop⟩ := hsome hd
      have hwa' := wanted_ok (P := P) (.inl hbad) hl
      rw [← hc, hwa] at hwa'
      simp only [← hwa', if_true]
      obtain ⟨t', a', ht', hget, he⟩ := loc (cOp_select hcop) hl
      rw [doOp_congr fun u hu => (hget u (htm u hu)).symm] at hd
      obtain ⟨_, v', hv, hrun⟩ := pure_ok hcop hcls hd ht'
      refine .inl ((runOk_value (R := fun v'' w'' => v'' = v' ∧ w'' = w) (hrun w) ⟨rfl, rfl⟩).wp he.symm fun v'' w'' hh => ?_)
      obtain ⟨rfl, rfl⟩ := hh
      exact hK β _ _ (put_size ..) (h.done hk hy hly ho hb hv (fun _ _ h => h) h.wr fun A p hA => .inl hA)
    · rename_i hcls
      obtain ⟨⟨s2, hd⟩, _⟩ := hlate
      obtain ⟨hbad, hcop⟩ := hsome hd
      have hwa' := wanted_ok (P := P) (.inl hbad) hl
      rw [← hc, hwa] at hwa'
      simp only [← hwa', if_true]
      obtain ⟨t', a', ht', hget, he⟩ := loc (cOp_select hcop) hl
      rw [doOp_congr fun u hu => (hget u (htm u hu)).symm] at hd
      obtain ⟨_, v', hv, hrun⟩ := read_ok hcop hcls hd ht' h.wr
      refine .inl ((runOk_value (R := fun v'' w'' => v'' = v' ∧ w'' = w) hrun ⟨rfl, rfl⟩).wp he.symm fun v'' w'' hh => ?_)
      obtain ⟨rfl, rfl⟩ := hh
      exact hK β _ _ (put_size ..) (h.done hk hy hly ho hb hv (fun _ _ h => h) h.wr fun A p hA => .inl hA)
    · rename_i hcls
      obtain ⟨s1, s2, ob, hd, hob, hob', hβ, hid, _⟩ := hlate
      obtain ⟨hbad, hcop⟩ := hsome hd
      have hwa' := wanted_ok (P := P) (.inl hbad) hl
      rw [← hc, hwa] at hwa'
      simp only [← hwa', if_true]
      obtain ⟨t', a', ht', hget, he⟩ := loc (cOp_select hcop) hl
      rw [doOp_congr fun u hu => (hget u (htm u hu)).symm] at hd
      obtain ⟨ob0, mk, hs2, hval, _, hmk⟩ := make_ok hcop hcls hd ht'
      obtain ⟨v', w', p, obj, hrun, hp, hh, hos, htp, hout, hrel⟩ := hmk w
      rw [hs2, obj_new, if_pos rfl] at hob
      cases hob
      have hle : β.le (β.add s1.nextId p) := fun B x hB => by
        unfold Bl.add
        by_cases e : B = s1.nextId
        · subst e; rw [hβ] at hB; cases hB
        · simp [e, hB]
      obtain ⟨hv, hor⟩ := hrel (β.add s1.nextId p) s1.nextId hle (by simp [Bl.add])
      rw [← hval] at hv
      refine .inl ((runOk_value (R := fun v'' w'' => v'' = v' ∧ w'' = w') hrun ⟨rfl, rfl⟩).wp he.symm fun v'' w'' hh' => ?_)
      obtain ⟨rfl, rfl⟩ := hh'
      refine hK (β.add s1.nextId p) _ _ (put_size ..) (h.done hk hy hly ho hb hv hle (h.wr.late hβ hob' (h.ids y hy _ hid).2.1 hp hh hos htp hout (hor _)) fun A q hA => ?_)
      unfold Bl.add at hA
      by_cases e : A = s1.nextId
      · right; rw [hid, e]
      · left; simpa [e] using hA
    · exact hlate.elim
  · have hg : (cOper P ops o).guard ≠ none := by rw [← hc]; intro e; rw [e] at hwa; cases hwa
    have hwa' := wanted_ok (P := P) (.inr hg) hl
    rw [← hc, hwa] at hwa'
    simp only [← hwa', Bool.false_eq_true, if_false]
    exact hK β _ _ (put_size ..) (h.done hk hy hly ho hb (hval ▸ VR.undef) (fun _ _ h => h) h.wr fun A p hA => .inl hA)
end
end Go.Ev
end

section
set_option linter.unusedSimpArgs false
set_option linter.unusedVariables false
namespace Go.Ev
open Go _root_.Ev Go.RowKit

section
variable {t : T Value} {s s' : St} {v : Value}

theorem doOp_state {o : COp} (hc : o.cls = .pure ∨ o.cls = .read) (h : doOp t s o = some (v, s')) : s' = s := by
  cases o <;> simp only [COp.cls] at hc <;> simp only [doOp] at h
  all_goals first
    | (rcases hc with hc | hc <;> cases hc; done)
    | (repeat' split at h
       all_goals first
         | (cases h; done)
         | (cases h; rfl))

theorem doOp_make {o : COp} (hc : o.cls = .make) (h : doOp t s o = some (v, s')) : ∃ ob, ob.mine = true ∧ s' = (s.new ob).2 := by
  cases o <;> simp only [COp.cls] at hc <;> simp only [doOp] at h
  all_goals first
    | (cases hc; done)
    | (repeat' split at h
       all_goals first
         | (cases h; done)
         | (cases h; exact ⟨_, rfl, rfl⟩)
         | (cases h; rename_i hw; exact ⟨_, rfl, (new_pair hw).2⟩))

theorem holdAll_mem {k : Nat} {x : Open} : ∀ {l : List Open}, holdAll s k l = true → x ∈ l → x.holds s k = true
  | [], _, hx => by cases hx
  | y :: r, h, hx => by
    simp only [holdAll] at h
    cases hy : y.holds s k with
    | false => simp [hy] at h
    | true =>
      simp only [hy] at h
      rcases List.mem_cons.1 hx with rfl | hx
      · exact hy
      · exact holdAll_mem h hx

theorem holds_read {k hi : Nat} {o : COp} (h : (Open.read t o v hi).holds s k = true) (hk : k ≤ hi) : ∃ s2, doOp t s o = some (v, s2) := by
  simp only [Open.holds, doOpF_eq, Nat.ble_eq_true_of_le hk] at h
  split at h
  · rename_i v' s2 hd; exact ⟨s2, by rw [hd, veq_eq h]⟩
  · cases h

theorem holds_make {k hi A : Nat} {ob : AObj} (h : (Open.make A ob hi).holds s k = true) (hk : k ≤ hi) : s.obj A = some ob := by
  simp only [Open.holds, Nat.ble_eq_true_of_le hk] at h
  cases s with | mk hh nx ep =>
  simp only [St.obj] at *
  split at h
  · rename_i o' ho; rw [ho, objEq_eq h]
  · cases h

theorem stepOp_congr {call : CallF} {t' : T Value} {o : COp} (h : ∀ u ∈ o.tmps, t.get u = t'.get u) : stepOp call t s o = stepOp call t' s o := by
  cases o
  case call f args => simp only [stepOp, evs_congr (xs := args) (fun u hu => h u (by simpa [COp.tmps] using hu))]
  case callv x args => simp only [stepOp, ev_congr (x := x) (fun u hu => h u (by simp [COp.tmps, hu])), evs_congr (xs := args) (fun u hu => h u (by simp only [COp.tmps, List.mem_append]; exact .inr hu))]
  all_goals exact doOp_congr (s := s) h

theorem stepOp_doOp {call : CallF} {o : COp} (hc : o.cls ≠ .eff) (h : stepOp call t s o = some (v, s')) : doOp t s o = some (v, s') := by
  cases o <;> first | exact h | exact absurd rfl hc
end

section
variable {P : Program} {ops : Array Oper} {d : DR} {base : Nat} {w0 : World} {β0 : Bl} {s0 : St} {a0 : Act} {dl : List Nat} {k : Nat} {opens : List Open} {t : T Value} {s : St} {val : Nat → Value} {ty : Nat → T Value} {idf : Nat → Option Nat}
  {lis : Array Bool} {β : Bl} {a : Act} {w : World}

theorem Late.open (o : Open) {β : Bl} {s : St} {ty : T Value} {val : Value} {id : Option Nat} {y : Nat} (h : Late d opens β s ty val id y) : Late d (o :: opens) β s ty val id y := by
  unfold Late at *
  split
  · rename_i hc; rw [hc] at h; exact h
  · rename_i hc; rw [hc] at h; exact ⟨h.1, List.mem_cons_of_mem _ h.2⟩
  · rename_i hc; rw [hc] at h
    obtain ⟨s1, s2, ob, h1, h2, h3, h4, h5, h6⟩ := h
    exact ⟨s1, s2, ob, h1, h2, h3, h4, h5, List.mem_cons_of_mem _ h6⟩
  · rename_i hc; rw [hc] at h; exact h

theorem Late.move {β β' : Bl} {s s' : St} {ty : T Value} {val : Value} {id : Option Nat} {y k' : Nat} (h : Late d opens β s ty val id y) (hh : holdAll s' k' opens = true) (hlat : k' ≤ d.lat y)
    (hb : ∀ A, id = some A → β A = none → β' A = none) : Late d opens β' s' ty val id y := by
  unfold Late at *
  split
  · rename_i hc; rw [hc] at h; exact h
  · rename_i hc; rw [hc] at h; exact ⟨holds_read (holdAll_mem hh h.2) hlat, h.2⟩
  · rename_i hc; rw [hc] at h
    obtain ⟨s1, s2, ob, h1, h2, h3, h4, h5, h6⟩ := h
    exact ⟨s1, s2, ob, h1, h2, holds_make (holdAll_mem hh h6) hlat, hb _ h5 h4, h5, h6⟩
  · rename_i hc; rw [hc] at h; exact h

theorem lis_false {lis : Array Bool} (ho : Ord d dl (fun i => lis.getD i false)) {x : Nat} (hn : x ∉ dl) : lis.getD x false = false := by
  cases hl : lis.getD x false with
  | false => rfl
  | true => exact absurd (ho.sub x hl) hn

/-- The evaluator does what is no effect; it waits. -/
theorem Inv.add (hk : DrOk P ops d a.tmps.size) (h : Inv base w0 d β0 s0 a0 dl k opens t s val ty idf lis β a w) {x : Nat} (hx : x < d.n) (hn : x ∉ dl) (hw : ∀ p, (d.w x).testBit p = true → p ∈ dl) (hb : ∀ p, (d.b x).testBit p = true → p ∈ dl)
    {v : Value} {s' : St} {opens' : List Open} {id : Option Nat} (hwr : WR base w0 β s' w) (hnx : s.nextId ≤ s'.nextId) (hid : ∀ A, id = some A → A = s.nextId ∧ s.nextId < s'.nextId)
    (hold : ∀ y ∈ dl, lis.getD y false = false → Pend d k opens β s (ty y) (val y) (idf y) y → Pend d k opens' β s' (ty y) (val y) (idf y) y) (hnew : Pend d k opens' β s' t v id x) :
    Inv base w0 d β0 s0 a0 (x :: dl) k opens' (put t (d.c x).dst v) s' (upd val x v) (upd ty x t) (upd idf x id) lis β a w := by
  have hne : ∀ z ∈ dl, z ≠ x := fun z hz e => hn (e ▸ hz)
  refine ⟨h.size, h.ord.add hx hw hb, h.tm.add hk h.ord hx hn hb v, hwr, fun y hy A hA => ?_, fun y hy hly => ?_, h.le, h.grow, Nat.le_trans h.nx hnx, h.asz, h.adf⟩
  · rcases List.mem_cons.1 hy with rfl | hy
    · rw [upd_same] at hA
      obtain ⟨rfl, hlt⟩ := hid A hA
      refine ⟨h.nx, hlt, fun z hz hzA => ?_⟩
      rcases List.mem_cons.1 hz with rfl | hz
      · rfl
      · rw [upd_ne _ _ (hne z hz)] at hzA
        exact absurd (h.ids z hz _ hzA).2.1 (Nat.lt_irrefl _)
    · rw [upd_ne _ _ (hne y hy)] at hA
      obtain ⟨h1, h2, h3⟩ := h.ids y hy A hA
      refine ⟨h1, Nat.lt_of_lt_of_le h2 hnx, fun z hz hzA => ?_⟩
      rcases List.mem_cons.1 hz with rfl | hz
      · rw [upd_same] at hzA
        rw [(hid A hzA).1] at h2; exact absurd h2 (Nat.lt_irrefl _)
      · rw [upd_ne _ _ (hne z hz)] at hzA; exact h3 z hz hzA
  · rcases List.mem_cons.1 hy with rfl | hy
    · rw [upd_same, upd_same, upd_same]; exact hnew
    · rw [upd_ne _ _ (hne y hy), upd_ne _ _ (hne y hy), upd_ne _ _ (hne y hy)]
      exact hold y hy hly (h.pend y hy hly)

/-- Both do an effect. -/
theorem Inv.eff (hk : DrOk P ops d a.tmps.size) (h : Inv base w0 d β0 s0 a0 dl k opens t s val ty idf lis β a w) {e : Nat} {o : Oper} (ho : ops[e]? = some o) (he : e < d.n) (hn : e ∉ dl)
    (hw : ∀ p, (d.w e).testBit p = true → lis.getD p false = true) (hb : ∀ p, (d.b e).testBit p = true → lis.getD p false = true)
    (hlat : ∀ j ∈ dl, d.eff j = false → d.lat j = k → (d.b e).testBit j = true) {v v' : Value} {s' : St} {β' : Bl} {w' : World}
    (hh : s' = s ∨ holdAll s' (k + 1) opens = true) (hv : VR β' v v') (hle : β.le β') (hg : Grow s β β') (hwr : WR base w0 β' s' w') (hnx : s.nextId ≤ s'.nextId) :
    Inv base w0 d β0 s0 a0 (e :: dl) (k + 1) opens (put t (d.c e).dst v) s' (upd val e v) (upd ty e t) (upd idf e none) (lis.setIfInBounds e true) β' (a.put o.dst v') w' := by
  have hne : ∀ z ∈ dl, z ≠ e := fun z hz e' => hn (e' ▸ hz)
  have hlt : e < lis.size := by rw [h.size]; exact he
  have hdst : (d.c e).dst = o.dst := by rw [hk.c e o ho, cOper_dst]
  have hle' := lis_false h.ord hn
  have hord := h.ord.add he (fun p hp => h.ord.sub p (hw p hp)) (fun p hp => h.ord.sub p (hb p hp))
  refine ⟨by simp [h.size], ?_, ?_, hwr, fun y hy A hA => ?_, fun z hz hlz => ?_, fun A p hA => hle _ _ (h.le _ _ hA), h.grow.trans hg h.nx, Nat.le_trans h.nx hnx, (put_size ..).trans h.asz, (put_defers ..).trans h.adf⟩
  · rw [getD_set lis hlt]; exact hord.done (List.mem_cons_self ..) hb
  · rw [getD_set lis hlt, act_put, ← hdst]
    have := h.tm.add hk h.ord he hn (fun p hp => h.ord.sub p (hb p hp)) v
    refine this.done hk hord (List.mem_cons_self ..) hle' hb ?_ hle (fun u hu => hk.dst e o ho u (by rw [← hdst]; exact hu))
    rw [upd_same]; exact hv
  · rcases List.mem_cons.1 hy with rfl | hy
    · rw [upd_same] at hA; cases hA
    · rw [upd_ne _ _ (hne y hy)] at hA
      obtain ⟨h1, h2, h3⟩ := h.ids y hy A hA
      refine ⟨h1, Nat.lt_of_lt_of_le h2 hnx, fun z hz hzA => ?_⟩
      rcases List.mem_cons.1 hz with rfl | hz
      · rw [upd_same] at hzA; cases hzA
      · rw [upd_ne _ _ (hne z hz)] at hzA; exact h3 z hz hzA
  · have hze : z ≠ e := fun e' => by
      subst e'
      have := congrFun (getD_set lis hlt) z
      simp only [upd_same] at this
      rw [this] at hlz; cases hlz
    have hz : z ∈ dl := (List.mem_cons.1 hz).resolve_left hze
    have hlz' : lis.getD z false = false := by rw [← getD_set_ne (i := e) false (Ne.symm hze)]; exact hlz
    obtain ⟨h1, h2, h3⟩ := h.pend z hz hlz'
    have hk1 : k + 1 ≤ d.lat z := by
      rcases Nat.lt_or_ge k (d.lat z) with h4 | h4
      · exact h4
      · have := hb z (hlat z hz h1 (by omega))
        rw [hlz'] at this; cases this
    rw [upd_ne _ _ hze, upd_ne _ _ hze, upd_ne _ _ hze]
    refine ⟨h1, hk1, h3.imp (fun ⟨h3, h4⟩ => ⟨h3, ?_⟩) id⟩
    have hbb : ∀ A, idf z = some A → β A = none → β' A = none := fun A hA hA' => by
      cases hc : β' A with
      | none => rfl
      | some p =>
        rcases hg A p hc with h5 | h5
        · rw [hA'] at h5; cases h5
        · exact absurd (h.ids z hz A hA).2.1 (by omega)
    rcases hh with rfl | hh
    · unfold Late at h4 ⊢
      split
      · rename_i hc; rw [hc] at h4; exact h4
      · rename_i hc; rw [hc] at h4; exact h4
      · rename_i hc; rw [hc] at h4
        obtain ⟨s1, s2, ob, h5, h6, h7, h8, h9, h10⟩ := h4
        exact ⟨s1, s2, ob, h5, h6, h7, hbb _ h9 h8, h9, h10⟩
      · rename_i hc; rw [hc] at h4; exact h4
    · exact h4.move hh hk1 hbb

/-- The machine does the effect. -/
theorem Inv.effRun {call : CallF} (hcall : CallOk P base w0 call) (hk : DrOk P ops d a.tmps.size) (h : Inv base w0 d β0 s0 a0 dl k opens t s val ty idf lis β a w) {e : Nat} (hn : e ∉ dl) (hr : e ∈ Region.ready .any ops lis)
    (hlat : ∀ j ∈ dl, d.eff j = false → d.lat j = k → (d.b e).testBit j = true) {v : Value} {s' : St}
    (hd : wanted t (d.c e).guard = true ∧ stepOp call t s (d.c e).op = some (v, s') ∧ holdAll s' (k + 1) opens = true ∨ wanted t (d.c e).guard = false ∧ v = undefV ∧ s' = s)
    {K : Act → World → Prop} {Q : Exit → Act → World → Prop}
    (hK : ∀ β' a' w', a'.tmps.size = a.tmps.size → Inv base w0 d β0 s0 a0 (e :: dl) (k + 1) opens (put t (d.c e).dst v) s' (upd val e v) (upd ty e t) (upd idf e none) (lis.setIfInBounds e true) β' a' w' → K a' w') : wpOp P ops Q e K a w := by
  obtain ⟨hle, o, ho, hen, hw, hb⟩ := ready_spec hk h hr
  have hc := hk.c e o ho
  have hl : ∀ u ∈ o.looksAt ops, VR β (Opd.ev t (.t u)) (a.tmps.getD u undef) := fun u hu =>
    h.tm.looks hk h.ord hen hn hb (by rw [hk.l e o ho]; exact hu)
  have htm : ∀ u ∈ (d.c e).op.tmps, u ∈ o.looksAt ops := fun u hu => by rw [← hk.l e o ho]; exact hk.tmps e hen u hu
  unfold wpOp
  simp only [ho]
  rcases hd with ⟨hwa, hd, hh⟩ | ⟨hwa, rfl, rfl⟩
  · have hcop : cOp P o = some (d.c e).op := by rw [hc] at hd ⊢; exact cOper_some hd
    have hbad : (cOper P ops o).op ≠ .bad := fun e' => by rw [hc, e', stepOp_bad] at hd; cases hd
    have hwa' := wanted_ok (P := P) (.inl hbad) hl
    rw [← hc, hwa] at hwa'
    simp only [← hwa', if_true]
    obtain ⟨t', a', ht', hget, he⟩ := loc (cOp_select hcop) hl
    have hd' := hd
    rw [stepOp_congr fun u hu => (hget u (htm u hu)).symm] at hd'
    refine .inl ((step_run hcall hcop hd' ht' h.wr).wp he.symm fun v' w' hh' => ?_)
    obtain ⟨β', h1, h2, h3, h4⟩ := hh'
    exact hK β' _ _ (put_size ..) (h.eff hk ho hen hn hw hb hlat (.inr hh) h1 h2 h3 h4 (stepOp_next hcall hd))
  · have hg : (cOper P ops o).guard ≠ none := by rw [← hc]; intro e'; rw [e'] at hwa; cases hwa
    have hwa' := wanted_ok (P := P) (.inr hg) hl
    rw [← hc, hwa] at hwa'
    simp only [← hwa', Bool.false_eq_true, if_false]
    exact hK β _ _ (put_size ..) (h.eff hk ho hen hn hw hb hlat (.inl rfl) VR.undef (fun _ _ h => h) (Grow.refl _ _) h.wr (Nat.le_refl _))
end
end Go.Ev
end

section
set_option linter.unusedSimpArgs false
set_option linter.unusedVariables false
namespace Go.Ev
open Go _root_.Ev Go.RowKit

theorem subB_iff {a b : Nat} : subB a b = true ↔ ∀ p, a.testBit p = true → b.testBit p = true := by
  unfold subB
  constructor
  · intro h p hp
    have := Nat.eq_of_beq_eq_true h
    rw [← this, Nat.testBit_and] at hp
    simp at hp; exact hp.2
  · intro h
    have : a &&& b = a := Nat.eq_of_testBit_eq fun p => by
      rw [Nat.testBit_and]
      cases ha : a.testBit p with
      | false => rfl
      | true => rw [h p ha]; rfl
    rw [this]; exact Nat.beq_refl a

theorem countP_lt {p q : Nat → Bool} {y : Nat} (hp : p y = true) (hq : q y = false) (hle : ∀ i, q i = true → p i = true) : ∀ {l : List Nat}, y ∈ l → l.countP q < l.countP p := by
  intro l
  induction l with
  | nil => intro h; cases h
  | cons x l ih =>
    intro h
    have hmono : l.countP q ≤ l.countP p := List.countP_mono_left fun i _ => hle i
    simp only [List.countP_cons]
    by_cases e : x = y
    · subst e; rw [hp, hq]; simp; omega
    · have := ih ((List.mem_cons.1 h).resolve_left (fun e' => e e'.symm))
      cases hqx : q x with
      | false => cases p x <;> simp <;> omega
      | true => rw [hle x hqx]; simp; omega

section
variable {P : Program} {ops : Array Oper} {d : DR} {base : Nat} {w0 : World} {β0 : Bl} {s0 : St} {a0 : Act} {tE : T Value} {sE : St} {call : CallF} {Q : Exit → Act → World → Prop}

theorem mem_ready_of {dl : List Nat} {k : Nat} {opens : List Open} {t : T Value} {s : St} {val : Nat → Value} {ty : Nat → T Value} {idf : Nat → Option Nat}
    {lis : Array Bool} {β : Bl} {a : Act} {w : World} (hk : DrOk P ops d a0.tmps.size) (h : Inv base w0 d β0 s0 a0 dl k opens t s val ty idf lis β a w) {y : Nat} (hy : y < d.n) (hl : lis.getD y false = false)
    (hw : ∀ p, (d.w y).testBit p = true → lis.getD p false = true) : y ∈ Region.ready .any ops lis := by
  have hlt : y < lis.size := by rw [h.size]; exact hy
  have hlo : y < ops.size := by rw [← hk.n]; exact hy
  refine mem_ready.2 ⟨by simpa [hlt] using hl, ops[y], Array.getElem?_eq_getElem hlo, fun e he hb => hw _ ?_⟩
  exact (hk.w y _ (Array.getElem?_eq_getElem hlo) _).2 ⟨e, he, hb, rfl⟩

/-- So many are not done. -/
def todo (n : Nat) (lis : Array Bool) : Nat := (List.range n).countP fun i => !lis.getD i false

theorem todo_lt {n y : Nat} {lis : Array Bool} (hy : y < n) (hs : lis.size = n) (hl : lis.getD y false = false) : todo n (lis.setIfInBounds y true) < todo n lis := by
  have e := getD_set lis (y := y) (by rw [hs]; exact hy)
  refine countP_lt (y := y) (by simpa using hl) ?_ ?_ (List.mem_range.2 hy)
  · have := congrFun e y
    simp only [upd_same] at this
    simp [this]
  · intro i hi
    by_cases h : i = y
    · subst h; simpa using hl
    · rw [getD_set_ne false (Ne.symm h)] at hi; exact hi

theorem draw_wp (hcall : CallOk P base w0 call) (hk : DrOk P ops d a0.tmps.size) (hQ : ∀ a' w', Stay base w0 β0 s0 a0 tE sE a' w' → Q .normal a' w') :
    ∀ (r dl : List Nat) (done k : Nat) (opens : List Open) (t : T Value) (s : St) (val : Nat → Value) (ty : Nat → T Value) (idf : Nat → Option Nat), d.orderOk r done k = true → (∀ i, done.testBit i = true ↔ i ∈ dl) →
      runDraw call (r.map fun i => (d.c i, d.lat i)) k opens t s = some (tE, sE) →
      ∀ (fuel : Nat) (lis : Array Bool) (β : Bl) (a : Act) (w : World), Inv base w0 d β0 s0 a0 dl k opens t s val ty idf lis β a w → todo d.n lis ≤ fuel → wpAny P .any ops Q fuel lis a w := by
  intro r
  induction r with
  | nil =>
    intro dl done k opens t s val ty idf hord hdone hrun
    simp [runDraw] at hrun
    obtain ⟨rfl, rfl⟩ := hrun
    simp only [DR.orderOk, List.all_eq_true, List.mem_range] at hord
    have fin : ∀ (lis : Array Bool) (β : Bl) (a : Act) (w : World), Inv base w0 d β0 s0 a0 dl k opens t s val ty idf lis β a w → Region.ready .any ops lis = [] → Q .normal a w := by
      intro lis β a w h hr
      refine hQ a w ⟨β, fun u => h.tm.tmp u fun z hz _ => ?_, h.wr, h.le, h.grow, h.asz, h.adf⟩
      cases hl : lis.getD z false with
      | true => rfl
      | false =>
        obtain ⟨y, hy, h1, h2⟩ := Good.free (lis := fun i => lis.getD i false) h.ord.good ⟨z, hz, hl⟩
        have := mem_ready_of hk h (h.ord.lt y hy) h1 h2
        rw [hr] at this; cases this
    intro fuel
    induction fuel with
    | zero =>
      intro lis β a w h hf
      have hr : Region.ready .any ops lis = [] := by
        refine List.eq_nil_iff_forall_not_mem.2 fun y hy => ?_
        obtain ⟨h1, o, ho, hyn, _, _⟩ := ready_spec (h.asz ▸ hk) h hy
        have := todo_lt hyn h.size h1
        omega
      exact ⟨hr, fin lis β a w h hr⟩
    | succ fuel ih =>
      intro lis β a w h hf
      refine ⟨fin lis β a w h, fun y hy => ?_⟩
      obtain ⟨h1, o, ho, hyn, _, _⟩ := ready_spec (h.asz ▸ hk) h hy
      refine h.run (h.asz ▸ hk) ((hdone y).1 (hord y hyn)) hy fun β' a' w' _ h' => ih _ β' a' w' h' ?_
      have := todo_lt hyn h.size h1
      omega
  | cons x r ihr =>
    intro dl done k opens t s val ty idf hord hdone hrun
    simp only [DR.orderOk, Bool.and_eq_true, Bool.not_eq_true', Nat.blt_eq] at hord
    obtain ⟨⟨⟨⟨⟨hxn, hxd⟩, hxw⟩, hxb⟩, hx⟩, hord'⟩ := hord
    have hn : x ∉ dl := fun hh => by rw [(hdone x).2 hh] at hxd; cases hxd
    have hw : ∀ p, (d.w x).testBit p = true → p ∈ dl := fun p hp => (hdone p).1 (subB_iff.1 hxw p hp)
    have hb : ∀ p, (d.b x).testBit p = true → p ∈ dl := fun p hp => (hdone p).1 (subB_iff.1 hxb p hp)
    have hdone' : ∀ i, (done ||| 2 ^ x).testBit i = true ↔ i ∈ x :: dl := fun i => by
      rw [Nat.testBit_or, Nat.testBit_two_pow, Bool.or_eq_true, List.mem_cons, hdone i]
      simp [eq_comm, or_comm]
    simp only [List.map_cons, runDraw, stepOpF_eq, forceT_eq, forceV_eq, forceS_eq] at hrun
    cases hef : d.eff x with
    | false =>
      rw [hef] at hx hord'
      simp only at hx
      have hlat := Nat.le_of_ble_eq_true hx
      have hce : (d.c x).op.cls ≠ .eff := fun e => by simp [DR.eff, isEff, e] at hef
      intro fuel lis β a w h hf
      have stay : ∀ y ∈ dl, lis.getD y false = false → Pend d k opens β s (ty y) (val y) (idf y) y → Pend d k opens β s (ty y) (val y) (idf y) y := fun _ _ _ h => h
      cases hwt : wanted t (d.c x).guard with
      | false =>
        simp only [hwt] at hrun
        exact ihr (x :: dl) _ k opens _ s _ _ _ hord' hdone' (by first | exact hrun | (split at hrun; exact absurd (by assumption) hce; exact hrun)) fuel lis β a w
          (h.add (h.asz ▸ hk) hxn hn hw hb (id := none) h.wr (Nat.le_refl _) (fun _ hh => by cases hh) stay ⟨hef, hlat, .inr ⟨hwt, rfl⟩⟩) hf
      | true =>
        simp only [hwt] at hrun
        split at hrun
        · cases hrun
        · rename_i v s' hs
          have hd := stepOp_doOp hce hs
          split at hrun
          · rename_i hc
            obtain rfl := doOp_state (.inl hc) hd
            refine ihr (x :: dl) _ k opens _ s' _ _ _ hord' hdone' hrun fuel lis β a w
              (h.add (h.asz ▸ hk) hxn hn hw hb (id := none) h.wr (Nat.le_refl _) (fun _ hh => by cases hh) stay ⟨hef, hlat, .inl ⟨hwt, ?_⟩⟩) hf
            unfold Late; rw [hc]; exact ⟨_, _, hd⟩
          · rename_i hc
            obtain rfl := doOp_state (.inr hc) hd
            refine ihr (x :: dl) _ k _ _ s' _ _ _ hord' hdone' hrun fuel lis β a w
              (h.add (h.asz ▸ hk) hxn hn hw hb (id := none) h.wr (Nat.le_refl _) (fun _ hh => by cases hh)
                (fun y hy hly ⟨h1, h2, h3⟩ => ⟨h1, h2, h3.imp (fun ⟨h3, h4⟩ => ⟨h3, h4.open _⟩) id⟩) ⟨hef, hlat, .inl ⟨hwt, ?_⟩⟩) hf
            unfold Late; rw [hc]; exact ⟨⟨_, hd⟩, List.mem_cons_self ..⟩
          · rename_i hc
            obtain ⟨ob, hm, rfl⟩ := doOp_make hc hd
            rw [obj_new, if_pos rfl] at hrun
            simp only at hrun
            split at hrun
            · rename_i hh
              have hnn : (s.new ob).2.nextId = s.nextId + 1 := next_new s ob
              refine ihr (x :: dl) _ k _ _ _ _ _ _ hord' hdone' hrun fuel lis β a w
                (h.add (h.asz ▸ hk) hxn hn hw hb (id := some s.nextId) (h.wr.pre ob hm) (by omega) (fun A hA => by cases hA; exact ⟨rfl, by omega⟩)
                  (fun y hy hly ⟨h1, h2, h3⟩ => ⟨h1, h2, h3.imp (fun ⟨h3, h4⟩ => ⟨h3, (h4.move hh h2 (fun A _ hA => hA)).open _⟩) id⟩) ⟨hef, hlat, .inl ⟨hwt, ?_⟩⟩) hf
              unfold Late; rw [hc]
              exact ⟨s, _, ob, hd, by rw [obj_new, if_pos rfl], by rw [obj_new, if_pos rfl], h.wr.none_next, rfl, List.mem_cons_self ..⟩
            · cases hrun
          · rename_i hc; exact absurd hc hce
    | true =>
      rw [hef] at hx hord'
      simp only [Bool.and_eq_true, List.all_eq_true, List.mem_range] at hx
      obtain ⟨hx1, hx2⟩ := hx
      have hce : (d.c x).op.cls = .eff := by
        unfold DR.eff isEff at hef
        split at hef
        · assumption
        · cases hef
      have hlat : ∀ j ∈ dl, j < d.n → d.eff j = false → d.lat j = k → (d.b x).testBit j = true := fun j hj hjn hje hjl => by
        have := hx2 j hjn
        rw [(hdone j).2 hj, hje, hjl] at this
        simpa using this
      obtain ⟨v, s', hd, hrun'⟩ : ∃ v s', (wanted t (d.c x).guard = true ∧ stepOp call t s (d.c x).op = some (v, s') ∧ holdAll s' (k + 1) opens = true ∨ wanted t (d.c x).guard = false ∧ v = undefV ∧ s' = s) ∧
          runDraw call (r.map fun i => (d.c i, d.lat i)) (k + 1) opens (put t (d.c x).dst v) s' = some (tE, sE) := by
        cases hwt : wanted t (d.c x).guard with
        | false =>
          simp only [hwt, hce] at hrun
          exact ⟨undefV, s, .inr ⟨rfl, rfl, rfl⟩, hrun⟩
        | true =>
          simp only [hwt] at hrun
          split at hrun
          · cases hrun
          · rename_i v s' hs
            simp only [hce] at hrun
            split at hrun
            · rename_i hh; exact ⟨v, s', .inl ⟨rfl, hs, hh⟩, hrun⟩
            · cases hrun
      intro fuel
      induction fuel with
      | zero =>
        intro lis β a w h hf
        have := todo_lt hxn h.size (lis_false h.ord hn)
        omega
      | succ fuel ih =>
        intro lis β a w h hf
        refine ⟨fun hr => ?_, fun y hy => ?_⟩
        · exfalso
          by_cases hall : ∃ y ∈ dl, lis.getD y false = false
          · obtain ⟨y, hy, h1, h2⟩ := Good.free (lis := fun i => lis.getD i false) h.ord.good hall
            have := mem_ready_of hk h (h.ord.lt y hy) h1 h2
            rw [hr] at this; cases this
          · have := mem_ready_of hk h hxn (lis_false h.ord hn) fun p hp => by
              cases hl : lis.getD p false with
              | true => rfl
              | false => exact absurd ⟨p, hw p hp, hl⟩ hall
            rw [hr] at this; cases this
        · obtain ⟨h1, o, ho, hyn, hyw, _⟩ := ready_spec (h.asz ▸ hk) h hy
          have hlt := todo_lt hyn h.size h1
          by_cases hyd : y ∈ dl
          · exact h.run (h.asz ▸ hk) hyd hy fun β' a' w' _ h' => ih _ β' a' w' h' (by omega)
          · have := hx1 y hyn
            have hsub : subB (d.w y) done = true := subB_iff.2 fun p hp => (hdone p).2 (h.ord.sub p (hyw p hp))
            have hnd : done.testBit y = false := by
              cases hc : done.testBit y with
              | false => rfl
              | true => exact absurd ((hdone y).1 hc) hyd
            rw [hsub, hnd] at this
            simp at this
            subst this
            exact h.effRun hcall (h.asz ▸ hk) hn hy (fun j hj => hlat j hj (h.ord.lt j hj)) hd fun β' a' w' _ h' => ihr (y :: dl) _ (k + 1) opens _ s' _ _ _ hord' hdone' hrun' fuel _ β' a' w' h' (by omega)
end
end Go.Ev
end

section
set_option linter.unusedSimpArgs false
set_option linter.unusedVariables false
namespace Go.Ev
open Go _root_.Ev Go.RowKit

theorem waits_bit (es : List Edge) (p : Nat) : ∀ s : Nat, (es.foldl (fun s e => if Region.binds .any e then s ||| 2 ^ e.on else s) s).testBit p = true ↔ s.testBit p = true ∨ ∃ e ∈ es, Region.binds .any e = true ∧ e.on = p := by
  induction es with
  | nil => intro s; simp
  | cons e es ih =>
    intro s
    simp only [List.foldl_cons, ih]
    by_cases hb : Region.binds .any e = true
    · simp only [hb, if_true, Nat.testBit_or, Nat.testBit_two_pow, Bool.or_eq_true, decide_eq_true_eq]
      constructor
      · rintro ((h | h) | ⟨x, hx, h1, h2⟩)
        · exact .inl h
        · exact .inr ⟨e, List.mem_cons_self .., hb, h⟩
        · exact .inr ⟨x, List.mem_cons_of_mem _ hx, h1, h2⟩
      · rintro (h | ⟨x, hx, h1, h2⟩)
        · exact .inl (.inl h)
        · rcases List.mem_cons.1 hx with rfl | hx
          · exact .inl (.inr h2)
          · exact .inr ⟨x, hx, h1, h2⟩
    · simp only [hb, Bool.false_eq_true, if_false]
      constructor
      · rintro (h | ⟨x, hx, h1, h2⟩)
        · exact .inl h
        · exact .inr ⟨x, List.mem_cons_of_mem _ hx, h1, h2⟩
      · rintro (h | ⟨x, hx, h1, h2⟩)
        · exact .inl h
        · rcases List.mem_cons.1 hx with rfl | hx
          · exact absurd h1 hb
          · exact .inr ⟨x, hx, h1, h2⟩

theorem or_bit (w : Nat) (f : Nat → Nat) (p : Nat) : ∀ (l : List Nat) (s : Nat), (l.foldl (fun s q => if w.testBit q then s ||| f q else s) s).testBit p = true → s.testBit p = true ∨ ∃ q ∈ l, w.testBit q = true ∧ (f q).testBit p = true
  | [], s, h => .inl h
  | q :: l, s, h => by
    simp only [List.foldl_cons] at h
    rcases or_bit w f p l _ h with h | ⟨x, hx, h1, h2⟩
    · split at h
      · rename_i hq
        rw [Nat.testBit_or, Bool.or_eq_true] at h
        rcases h with h | h
        · exact .inl h
        · exact .inr ⟨q, List.mem_cons_self .., hq, h⟩
      · exact .inl h
    · exact .inr ⟨x, List.mem_cons_of_mem _ hx, h1, h2⟩

section
variable {P : Program} {ops : Array Oper} {size n : Nat}

theorem getD_map {α β : Type} (f : α → β) (l : Array α) (i : Nat) (o : α) (dflt : β) (h : l[i]? = some o) : (l.toList.map f).getD i dflt = f o := by
  simp [List.getD, h]

theorem drOk (hd : dstOk n ops = true) (hn : n ≤ size) (h : (drOf P ops).1.ok (drOf P ops).2 = true) : DrOk P ops (drOf P ops).1 size := by
  unfold DR.ok at h
  rw [Bool.and_eq_true, List.all_eq_true] at h
  have h1 := h.1
  have hall : ∀ i, i < ops.size → ((drOf P ops).1.c i).op.tmps.all ((drOf P ops).1.l i).contains = true ∧ (drOf P ops).1.bOk i = true ∧ ∀ j, j < ops.size → (drOf P ops).1.pairOk i j = true := fun i hi => by
    have := h1 i (List.mem_range.2 hi)
    simp only [Bool.and_eq_true, List.all_eq_true, List.mem_range] at this
    exact ⟨by rw [List.all_eq_true]; exact this.1.1, this.1.2, fun j hj => this.2 j hj⟩
  refine ⟨rfl, fun i o ho => getD_map _ _ _ _ _ ho, fun i o ho u hu => ?_, fun i o ho p => ?_, fun i o ho => getD_map _ _ _ _ _ ho, fun i hi u hu => ?_, fun i hi p hp => ?_, fun i hi j hj hij t ht => ?_⟩
  · unfold dstOk at hd
    have := List.all_eq_true.1 hd o (by simpa using Array.mem_of_getElem? ho)
    rw [hu] at this
    simp only [Nat.blt_eq] at this
    exact Nat.lt_of_lt_of_le this hn
  · have e : (drOf P ops).1.w i = waitsFor o := getD_map _ _ _ _ _ ho
    rw [e]
    unfold waitsFor
    rw [waits_bit]
    simp
  · have := (hall i hi).1
    rw [List.all_eq_true] at this
    simpa using this u hu
  · have := subB_iff.1 (hall i hi).2.1 p hp
    rcases or_bit _ _ _ _ _ this with h2 | ⟨q, hq, h2, h3⟩
    · exact .inl h2
    · exact .inr ⟨q, List.mem_range.1 hq, h2, h3⟩
  · have := (hall i hi).2.2 j hj
    unfold DR.pairOk at this
    rw [ht] at this
    simp only [Bool.or_eq_true, Bool.and_eq_true, decide_eq_true_eq, Bool.not_eq_true', Nat.beq_eq_true_eq] at this
    rcases this with h2 | ⟨h2, h3⟩
    · exact absurd (Nat.eq_of_beq_eq_true h2) hij
    · refine ⟨h2, fun hm => ?_⟩
      rcases h3 with (h3 | h3) | h3
      · simp [hm] at h3
      · exact .inl h3
      · exact .inr h3
end
end Go.Ev
end

section
set_option linter.unusedSimpArgs false
set_option linter.unusedVariables false
namespace Go.Ev
open Go _root_.Ev Go.RowKit

section
variable {P : Program} {β : Bl} {t t' : T Value} {s s' : St} {a : Act} {base : Nat} {w0 w : World} {ops : Array Oper} {call : CallF}

theorem cRes_cons {r : ResultVar} {rl : List ResultVar} {rs : List CRes} (h : cRes P (r :: rl) = some rs) : ∃ y ys, rs = y :: ys ∧ cRes P rl = some ys ∧
    ((∃ k, r = .tmp k ∧ y = .tmp k) ∨ (∃ x ty, r = .cell x ty ∧ aggT P ty = some false ∧ y = .cell x) ∨ ∃ x ty n, r = .cell x ty ∧ aggT P ty = some true ∧ sizeT P ty = some n ∧ y = .cells n x) := by
  cases r with
  | tmp k =>
    simp only [cRes, bind, Option.bind_some, Option.bind_eq_some_iff, Option.some.injEq] at h
    obtain ⟨ys, h1, rfl⟩ := h
    exact ⟨_, _, rfl, h1, .inl ⟨k, rfl, rfl⟩⟩
  | cell x ty =>
    simp only [cRes, bind, Option.bind_eq_some_iff] at h
    obtain ⟨b, hb, h⟩ := h
    cases b with
    | false =>
      simp only [Option.bind_some, Option.bind_eq_some_iff, Option.some.injEq] at h
      obtain ⟨ys, h1, rfl⟩ := h
      exact ⟨_, _, rfl, h1, .inr (.inl ⟨x, ty, rfl, hb, rfl⟩)⟩
    | true =>
      simp only [Option.bind_some, Option.bind_eq_some_iff, Option.some.injEq] at h
      obtain ⟨n, hn, ys, h1, rfl⟩ := h
      exact ⟨_, _, rfl, h1, .inr (.inr ⟨x, ty, n, rfl, hb, hn, rfl⟩)⟩

def resOne (tmps : Array Value) : ResultVar → Sem Value
  | .tmp t => pure (tmps.getD t undef)
  | .cell x ty => do loadVar ty (← asAddr (tmps.getD x undef))

theorem results_eq (fn : Func) (tmps : Array Value) : results fn tmps = (do
    let vs ← fn.results.mapM (resOne tmps)
    pure (if h : vs.size = 1 then vs[0] else .tuple vs)) := by
  unfold results
  congr 1

theorem run_res (ht : TR β t a.tmps) (hw : WR base w0 β s w) : ∀ {rl : List ResultVar} {rs : List CRes} {vs : List Value}, cRes P rl = some rs → resF t s rs = some vs →
    ∃ vs', (rl.mapM (resOne a.tmps) : Sem (List Value)).run P w = .ok vs' w ∧ VRs β vs vs'
  | [], rs, vs, h, hr => by
    simp [cRes] at h; subst h
    simp [resF] at hr; subst hr
    exact ⟨[], by simp, .nil⟩
  | r :: rl, rs, vs, h, hr => by
    obtain ⟨y, ys, rfl, hys, hy⟩ := cRes_cons h
    simp only [resF] at hr
    split at hr
    · cases hr
    · rename_i v hv
      split at hr
      · rename_i us hus
        simp only [Option.some.injEq] at hr
        subst hr
        obtain ⟨us', h1, h2⟩ := run_res ht hw hys hus
        suffices ∃ v', (resOne a.tmps r : Sem Value).run P w = .ok v' w ∧ VR β v v' by
          obtain ⟨v', h3, h4⟩ := this
          refine ⟨v' :: us', ?_, .cons _ _ _ _ h4 h2⟩
          rw [List.mapM_cons]
          simp only [Sem.run_bind]
          rw [h3]
          simp only [Result.andThen, Sem.run_bind]
          rw [h1]
          simp [Result.andThen]
        rcases hy with ⟨k, rfl, rfl⟩ | ⟨x, ty, rfl, hb, rfl⟩ | ⟨x, ty, n, rfl, hb, hn, rfl⟩
        · simp only [Option.some.injEq] at hv
          subst hv
          exact ⟨_, by simp [resOne], ht k⟩
        · have e := ht x
          change VR β (Opd.ev t (.t x)) _ at e
          · simp only at hv
            generalize Opd.ev t (.t x) = xv at hv e
            generalize hxv : a.tmps.getD x undef = xv' at e
            cases e <;> try (simp [addrOf] at hv; done)
            rename_i A p oo hA
            simp only [addrOf] at hv
            cases hc : s.cellsOf A with
            | none => simp [hc] at hv
            | some cs =>
              simp only [hc] at hv
              obtain ⟨v', h3, h4⟩ := hw.cell hA hc hv
              refine ⟨v', ?_, h4⟩
              simp [resOne, hxv, asAddr, Sem.run_bind, loadVar, run_agg hb, Result.andThen, load, Sem.run, h3]
        · have e := ht x
          change VR β (Opd.ev t (.t x)) _ at e
          · simp only at hv
            generalize Opd.ev t (.t x) = xv at hv e
            generalize hxv : a.tmps.getD x undef = xv' at e
            cases e <;> try (simp [addrOf] at hv; done)
            rename_i A p oo hA
            simp only [addrOf] at hv
            cases hc : s.cellsOf A with
            | none => simp [hc] at hv
            | some cs =>
              simp only [hc] at hv
              cases hcut : cut cs oo n with
              | none => simp [hcut] at hv
              | some r =>
                simp [hcut] at hv
                subst hv
                obtain ⟨r', k1, k2, k3⟩ := hw.run hA hc hcut
                have hl : (loadCells ⟨p.b, p.sh + oo, none⟩ n).run P w = .ok r'.toArray w := by
                  rw [← k1]
                  refine run_loadCells_list w _ r' fun j u hj => ?_
                  have hjn : j < n := by rw [← k1]; exact (List.getElem?_eq_some_iff.1 hj).1
                  have := k3 j hjn
                  rw [hj] at this
                  rw [← this]
                  unfold Addr.add
                  by_cases h0 : j = 0 <;> simp [h0]
                refine ⟨_, ?_, .agg _ _ k2⟩
                simp [resOne, hxv, asAddr, Sem.run_bind, loadVar, run_agg hb, run_size hn, Result.andThen, hl]
      · cases hr

theorem run_results {fn : Func} {rs : List CRes} {vs : List Value} (ht : TR β t a.tmps) (hw : WR base w0 β s w) (h : cRes P fn.results.toList = some rs) (hr : resF t s rs = some vs) :
    ∃ v', (results fn a.tmps).run P w = .ok v' w ∧ VR β (retV vs) v' := by
  obtain ⟨vs', h1, h2⟩ := run_res (a := a) ht hw h hr
  rw [results_eq]
  simp only [Sem.run_bind]
  rw [Array.mapM_eq_mapM_toList, Sem.run_map]
  rw [h1]
  cases h2 with
  | nil => exact ⟨_, by simp [Result.andThen], .tuple [] [] .nil⟩
  | cons x x' xs xs' hx hs =>
    cases hs with
    | nil => exact ⟨x', by simp [Result.andThen], hx⟩
    | cons y y' ys ys' hy hys => exact ⟨_, by simp [Result.andThen], .tuple _ _ (.cons _ _ _ _ hx (.cons _ _ _ _ hy hys))⟩

def Ex.to : Ex → Exit
  | .normal => .normal
  | .exit id => .exit id
  | .ret => .ret

/-- A loop by the fuel of its rounds. -/
theorem least (p : Nat → Prop) (h : ∃ m, p m) : ∃ m, p m ∧ ∀ k, p k → m ≤ k := by
  obtain ⟨m, hm⟩ := h
  induction m using Nat.strongRecOn with
  | _ m ih =>
    by_cases hk : ∃ k, k < m ∧ p k
    · obtain ⟨k, h1, h2⟩ := hk
      exact ih k h1 h2
    · exact ⟨m, hm, fun k hk' => Nat.le_of_not_lt fun hlt => hk ⟨k, hlt, hk'⟩⟩

open Classical in
noncomputable def leastOf (p : Nat → Prop) : Nat := if h : ∃ m, p m then Classical.choose (least p h) else 0

theorem leastOf_spec {p : Nat → Prop} (h : ∃ m, p m) : p (leastOf p) ∧ ∀ k, p k → leastOf p ≤ k := by
  unfold leastOf
  rw [dif_pos h]
  exact Classical.choose_spec (least p h)

theorem wp_loop_fuel {c : Code} {Q : Exit → Act → World → Prop} (I : Nat → Act → World → Prop) {n : Nat} (h0 : I n a w)
    (round : ∀ m a w, I m a w → c.wp P (Exit.then (fun a' w' => ∃ m', m' < m ∧ I m' a' w') Q) a w) : (Code.loop c).wp P Q a w := by
  refine wp_loop (fun a w => ∃ m, I m a w) (fun a w => leastOf fun m => I m a w) ⟨n, h0⟩ fun a w hI => ?_
  obtain ⟨h1, h2⟩ := leastOf_spec hI
  refine wp_mono (round _ a w h1) fun e a' w' hh => ?_
  cases e <;> try exact hh
  obtain ⟨m', hlt, hm⟩ := hh
  exact ⟨⟨m', hm⟩, Nat.lt_of_le_of_lt ((leastOf_spec ⟨m', hm⟩).2 m' hm) hlt⟩

theorem initT_get : ∀ (l : List Value) (i : Nat) (t : T Value) (k : Nat), (initT l i t).get k = if i ≤ k ∧ k < i + l.length then l[k - i]? else t.get k
  | [], i, t, k => by simp [initT]; omega
  | v :: l, i, t, k => by
    simp only [initT, initT_get l, T.get_set, List.length_cons]
    by_cases h1 : i + 1 ≤ k ∧ k < i + 1 + l.length
    · rw [if_pos h1, if_pos (by omega), show k - i = (k - (i + 1)) + 1 by omega, List.getElem?_cons_succ]
    · rw [if_neg h1]
      by_cases h2 : k = i
      · subst h2; simp
      · rw [if_neg h2, if_neg (by omega)]

theorem initT_ok {args args' : List Value} (h : VRs β args args') (n : Nat) : TR β (initT args 0 .nil) ((⟨args'⟩ : Array Value) ++ Array.replicate n undef) := by
  intro k
  rw [initT_get]
  have hl := h.length
  by_cases hk : 0 ≤ k ∧ k < 0 + args.length
  · rw [if_pos hk]
    have hk' : k < args.length := by omega
    obtain ⟨v', h1, h2⟩ := h.get (List.getElem?_eq_getElem hk')
    rw [List.getElem?_eq_getElem (show k - 0 < args.length by omega)]
    have e : ((⟨args'⟩ : Array Value) ++ Array.replicate n undef).getD k undef = v' := by
      have hk2 : k < args'.length := by omega
      simp [Array.getElem?_append, hk2]
      rw [List.getElem?_eq_getElem hk2] at h1
      simpa using h1
    rw [e]
    simpa using h2
  · rw [if_neg hk, T.get_nil]
    have e : ((⟨args'⟩ : Array Value) ++ Array.replicate n undef).getD k undef = undef := by
      have hk2 : ¬ k < args'.length := by omega
      simp [Array.getElem?_append, hk2]
      by_cases h3 : k - args'.length < n
      · simp [h3]
      · simp [h3]
    rw [e]
    exact VR.undef

def ProgOk (P : Program) (prog : Nat → Option CFunc) : Prop := ∀ f cf, prog f = some cf → (∃ fn, P.funcs[f]? = some fn ∧ cFunc P fn = some cf ∧ fn.name ≠ "runtime.NumGoroutine") ∨
    (cf = trueFn ∧ (∃ fn, P.funcs[f]? = some fn ∧ fn.name ≠ "runtime.NumGoroutine" ∧ fn.body.isSome = true) ∧ ∀ w, Calls P f #[] w fun e w' => e = .returned (.bool true) ∧ Below w.heap.size w w')

theorem WR.of_below {w' : World} (h : WR base w0 β s w) (hb : Below w.heap.size w w') : WR base w0 β s w' := by
  have blk : ∀ k, k < w.heap.size → w'.heap[k]? = w.heap[k]? := hb.block
  refine ⟨⟨hb.os.trans h.below.os, hb.tape.trans h.below.tape, hb.output.trans h.below.output, Nat.le_trans h.below.size hb.size, fun k hk => (blk k (Nat.lt_of_lt_of_le hk h.hb)).trans (h.below.block k hk)⟩,
    Nat.le_trans h.hb hb.size, fun A p hA => ?_, fun A p o hA ho' => (h.rel A p o hA ho').of_block (blk _ (h.dom A p hA).2.1), h.fresh, h.eld, h.own⟩
  obtain ⟨h1, h2, h3⟩ := h.dom A p hA
  exact ⟨h1, Nat.lt_of_lt_of_le h2 hb.size, h3⟩

/-- What is claimed of so much fuel. -/
def CodeOk (P : Program) (prog : Nat → Option CFunc) (base : Nat) (w0 : World) (n : Nat) : Prop :=
  ∀ (nt : Nat) (c : Code) (t : T Value) (s : St) (ex : Ex) (t' : T Value) (s' : St), evCode prog n (cCode P nt c) t s = some (ex, t', s') → s.nextId ≤ s'.nextId ∧
    ∀ (β : Bl) (a : Act) (w : World), TR β t a.tmps → WR base w0 β s w → nt ≤ a.tmps.size → c.wp P (fun e a' w' => e = ex.to ∧ Stay base w0 β s a t' s' a' w') a w

theorem callWith_ok {prog : Nat → Option CFunc} (hp : ProgOk P prog) {n : Nat} (h : CodeOk P prog base w0 n) : CallOk P base w0 (callWith prog (evCode prog n)) := by
  intro f args s v s' hd
  unfold callWith at hd
  cases hf : prog f with
  | none => simp [hf] at hd
  | some cf =>
    simp only [hf] at hd
    rcases hp f cf hf with ⟨fn, hfn, hcf, hname⟩ | ⟨rfl, hfn, hc⟩
    case inr =>
      cases n with
      | zero => cases ha : okArgs trueFn.ntmps args <;> simp [ha, evCode] at hd
      | succ n =>
        cases args with
        | cons _ _ => simp [trueFn, okArgs] at hd
        | nil =>
          have hd' : some (Value.bool true, s) = some (v, s') := by
            rw [← hd]
            cases s with
            | mk h nx ep => cases h <;> cases nx <;> cases ep <;> rfl
          simp only [Option.some.injEq, Prod.mk.injEq] at hd'
          obtain ⟨rfl, rfl⟩ := hd'
          refine ⟨Nat.le_refl _, hfn, fun β w args' hw ha => ?_⟩
          cases ha
          refine Calls.mono (hc w) fun e w' hh => ?_
          obtain ⟨rfl, hb⟩ := hh
          exact ⟨_, β, rfl, .bool true, Bl.le_refl β, Grow.refl _ _, hw.of_below hb⟩
    cases hok : okArgs cf.ntmps args with
    | false => simp [hok] at hd
    | true =>
    simp only [hok] at hd
    simp only [cFunc, bind, Option.bind_eq_some_iff, Option.some.injEq] at hcf
    obtain ⟨body, hbody, rs, hrs, rfl⟩ := hcf
    have main : ∀ {ex : Ex} {t' : T Value} {vs : List Value}, ex = .normal ∨ ex = .ret → evCode prog n (cCode P fn.ntmps body) (initT args 0 .nil) s = some (ex, t', s') → resF t' s' rs = some vs → v = retV vs →
        s.nextId ≤ s'.nextId ∧ (∃ fn, P.funcs[f]? = some fn ∧ fn.name ≠ "runtime.NumGoroutine" ∧ fn.body.isSome = true) ∧
          ∀ β w args', WR base w0 β s w → VRs β args args' →
            Calls P f ⟨args'⟩ w fun e w' => ∃ v' β', e = .returned v' ∧ VR β' v v' ∧ β.le β' ∧ Grow s β β' ∧ WR base w0 β' s' w' := by
      intro ex t' vs hex hev hres hv
      obtain ⟨h1, h2⟩ := h _ _ _ _ _ _ _ hev
      refine ⟨h1, ⟨fn, hfn, hname, by rw [hbody]; rfl⟩, fun β w args' hw ha => calls_of_wp hfn hbody (wp_mono (h2 β _ w (initT_ok ha _) hw ?_) fun e a' w' hh => ?_)⟩
      · simp; omega
      · obtain ⟨he, β', k1, k2, k3, k4, k5, k6⟩ := hh
        obtain ⟨v', r1, r2⟩ := run_results k1 k2 hrs hres
        rw [← hv] at r2
        rcases hex with rfl | rfl <;> subst he <;> exact ⟨k6, v', r1, v', β', rfl, r2, k3, k4, k2⟩
    split at hd
    · rename_i t' s1 hev
      split at hd
      · rename_i vs hres
        simp only [Option.some.injEq, Prod.mk.injEq] at hd
        obtain ⟨rfl, rfl⟩ := hd
        exact main (.inl rfl) hev hres rfl
      · cases hd
    · rename_i t' s1 hev
      split at hd
      · rename_i vs hres
        simp only [Option.some.injEq, Prod.mk.injEq] at hd
        obtain ⟨rfl, rfl⟩ := hd
        exact main (.inr rfl) hev hres rfl
      · cases hd
    · cases hd
end
end Go.Ev
end

section
set_option linter.unusedSimpArgs false
set_option linter.unusedVariables false
namespace Go.Ev
open Go _root_.Ev Go.RowKit

section
variable {P : Program} {β : Bl} {t t' : T Value} {s s' : St} {a : Act} {base : Nat} {w0 w : World} {ops : Array Oper} {call : CallF}

theorem runDraw_next (hcall : CallOk P base w0 call) : ∀ (l : List (CE × Nat)) (k : Nat) (opens : List Open) (t : T Value) (s : St), runDraw call l k opens t s = some (t', s') → s.nextId ≤ s'.nextId
  | [], k, opens, t, s, h => by simp [runDraw] at h; rw [h.2]; exact Nat.le_refl _
  | (e, hi) :: r, k, opens, t, s, h => by
    simp only [runDraw, stepOpF_eq, forceT_eq, forceV_eq, forceS_eq] at h
    split at h
    · split at h
      · cases h
      · rename_i v s1 hs
        have h1 := stepOp_next hcall hs
        split at h
        · exact Nat.le_trans h1 (runDraw_next hcall r _ _ _ _ h)
        · exact Nat.le_trans h1 (runDraw_next hcall r _ _ _ _ h)
        · split at h
          · split at h
            · exact Nat.le_trans h1 (runDraw_next hcall r _ _ _ _ h)
            · cases h
          · cases h
        · split at h
          · exact Nat.le_trans h1 (runDraw_next hcall r _ _ _ _ h)
          · cases h
    · split at h
      · exact runDraw_next hcall r _ _ _ _ h
      · exact runDraw_next hcall r _ _ _ _ h

theorem bad_none {call : CallF} (t : T Value) (s : St) : runOps call [{ dst := none, op := .bad, guard := none }] t s = none := rfl

theorem region_ok (hm : P.follows .mixedOrders = true) (hcall : CallOk P base w0 call) {id : Nat} {draw : Bool} {nt : Nat} {prog : Nat → Option CFunc} {n : Nat} (hc : call = callWith prog (evCode prog n)) {ex : Ex}
    (h : evCode prog (n + 1) (cRegion P nt ops draw) t s = some (ex, t', s')) : s.nextId ≤ s'.nextId ∧
    ∀ (β : Bl) (a : Act) (w : World), TR β t a.tmps → WR base w0 β s w → nt ≤ a.tmps.size → (Code.region id ops draw).wp P (fun e a' w' => e = ex.to ∧ Stay base w0 β s a t' s' a' w') a w := by
  unfold cRegion at h
  have bad : evCode prog (n + 1) badReg t s = none := rfl
  cases hd : dstOk nt ops with
  | false => simp only [hd] at h; rw [bad] at h; cases h
  | true =>
    simp only [hd] at h
    have hdst : ∀ (a : Act), nt ≤ a.tmps.size → ∀ o ∈ ops.toList, ∀ d, o.dst = some d → d < a.tmps.size := fun a hn o ho d hod => by
      unfold dstOk at hd
      have := List.all_eq_true.1 hd o ho
      rw [hod] at this
      simp only [Nat.blt_eq] at this
      exact Nat.lt_of_lt_of_le this hn
    cases draw with
    | false =>
      simp only [evCode, ← hc] at h
      split at h
      · rename_i t1 s1 hr
        simp only [Option.some.injEq, Prod.mk.injEq] at h
        obtain ⟨rfl, rfl, rfl⟩ := h
        refine ⟨runOps_next hcall _ _ _ hr, fun β a w ht hw hn => wp_region_list (runOps_ok hcall _ t s β a w (hdst a hn) hr ht hw fun a' w' hh => ⟨rfl, hh⟩)⟩
      · cases h
    | true =>
      simp only at h
      cases hcd : cDraw P ops with
      | none => simp only [hcd] at h; rw [bad] at h; cases h
      | some l =>
        simp only [hcd, evCode, ← hc] at h
        split at h
        · rename_i t1 s1 hr
          simp only [Option.some.injEq, Prod.mk.injEq] at h
          obtain ⟨rfl, rfl, rfl⟩ := h
          refine ⟨runDraw_next hcall _ _ _ _ _ hr, fun β a w ht hw hn => wp_region_any hm ?_⟩
          unfold cDraw at hcd
          generalize hdr : drOf P ops = dr at hcd
          obtain ⟨d, ord⟩ := dr
          simp only at hcd
          cases hok : d.ok ord with
          | false => simp [hok] at hcd
          | true =>
            simp only [hok, Option.some.injEq] at hcd
            subst hcd
            have e1 : (drOf P ops).1 = d := by rw [hdr]
            have e2 : (drOf P ops).2 = ord := by rw [hdr]
            have hk : DrOk P ops d a.tmps.size := by rw [← e1]; exact drOk hd hn (by rw [e1, e2]; exact hok)
            have hord : d.orderOk ord 0 0 = true := by
              unfold DR.ok at hok
              rw [Bool.and_eq_true] at hok
              exact hok.2
            have hlis : ∀ i, (Array.replicate ops.size false).getD i false = false := fun i => by
              by_cases hi : i < ops.size <;> simp [hi]
            refine draw_wp hcall hk (β0 := β) (s0 := s) (a0 := a) (tE := t1) (sE := s1) (fun a' w' hh => ⟨rfl, hh⟩) ord [] 0 0 [] t s (fun _ => undefV) (fun _ => .nil) (fun _ => none) hord (fun i => by simp) hr _ _ β a _ ⟨by simp [hk.n], ⟨fun i hi => ?_, by simp, fun i hi => ?_, by simp, trivial⟩,
              ⟨fun u _ => ht u, by simp, by simp, by simp⟩, hw.of_heap rfl rfl rfl rfl, by simp, by simp, fun _ _ h => h, Grow.refl _ _, Nat.le_refl _, rfl, rfl⟩ ?_
            · simp only [hlis] at hi; cases hi
            · simp only [hlis] at hi; cases hi
            · unfold todo
              have := List.countP_le_length (p := fun i => !(Array.replicate ops.size false).getD i false) (l := List.range d.n)
              simp only [List.length_range, hk.n] at this
              rw [hk.n]; exact this
        · cases h

theorem code_ok (hm : P.follows .mixedOrders = true) {prog : Nat → Option CFunc} (hp : ProgOk P prog) : ∀ n, CodeOk P prog base w0 n := by
  intro n
  induction n using Nat.strongRecOn with
  | _ n ih =>
    cases n with
    | zero => intro nt c t s ex t' s' h; cases h
    | succ n =>
      have ihn := ih n (Nat.lt_succ_self n)
      have hcall := callWith_ok hp ihn
      have bad : ∀ {t : T Value} {s : St}, evCode prog (n + 1) badReg t s = none := rfl
      intro nt c t s ex t' s' h
      cases c with
      | skip =>
        simp only [cCode, evCode, Option.some.injEq, Prod.mk.injEq] at h
        obtain ⟨rfl, rfl, rfl⟩ := h
        exact ⟨Nat.le_refl _, fun β a w ht hw hn => wp_skip ⟨rfl, β, ht, hw, fun _ _ h => h, Grow.refl _ _, rfl, rfl⟩⟩
      | label l =>
        simp only [cCode, evCode, Option.some.injEq, Prod.mk.injEq] at h
        obtain ⟨rfl, rfl, rfl⟩ := h
        exact ⟨Nat.le_refl _, fun β a w ht hw hn => wp_label ⟨rfl, β, ht, hw, fun _ _ h => h, Grow.refl _ _, rfl, rfl⟩⟩
      | exit id =>
        simp only [cCode, evCode, Option.some.injEq, Prod.mk.injEq] at h
        obtain ⟨rfl, rfl, rfl⟩ := h
        exact ⟨Nat.le_refl _, fun β a w ht hw hn => wp_exit ⟨rfl, β, ht, hw, fun _ _ h => h, Grow.refl _ _, rfl, rfl⟩⟩
      | ret =>
        simp only [cCode, evCode, Option.some.injEq, Prod.mk.injEq] at h
        obtain ⟨rfl, rfl, rfl⟩ := h
        exact ⟨Nat.le_refl _, fun β a w ht hw hn => wp_ret ⟨rfl, β, ht, hw, fun _ _ h => h, Grow.refl _ _, rfl, rfl⟩⟩
      | region id ops draw => exact region_ok hm hcall rfl h
      | seq x y =>
        simp only [cCode, evCode] at h
        split at h
        · rename_i t1 s1 h1
          obtain ⟨n1, k1⟩ := ihn _ _ _ _ _ _ _ h1
          obtain ⟨n2, k2⟩ := ihn _ _ _ _ _ _ _ h
          refine ⟨Nat.le_trans n1 n2, fun β a w ht hw hn => wp_seq (wp_mono (k1 β a w ht hw hn) fun e a' w' hh => ?_)⟩
          obtain ⟨rfl, β', j1, j2, j3, j4, j5, j6⟩ := hh
          exact wp_mono (k2 β' a' w' j1 j2 (by rw [j5]; exact hn)) fun e a'' w'' hh => ⟨hh.1, hh.2.trans j3 j4 n1 j5 j6⟩
        · rename_i r hne
          obtain ⟨n1, k1⟩ := ihn _ _ _ _ _ _ _ h
          refine ⟨n1, fun β a w ht hw hn => wp_seq (wp_mono (k1 β a w ht hw hn) fun e a' w' hh => ?_)⟩
          obtain ⟨rfl, hh⟩ := hh
          cases ex with
          | normal => exact absurd h (hne _ _)
          | exit id => exact ⟨rfl, hh⟩
          | ret => exact ⟨rfl, hh⟩
      | cond x y z =>
        simp only [cCode] at h
        cases hx : cOpd x with
        | none => simp only [hx] at h; rw [bad] at h; cases h
        | some x' =>
          simp only [hx, evCode] at h
          split at h
          · rename_i hb
            obtain ⟨n1, k1⟩ := ihn _ _ _ _ _ _ _ h
            refine ⟨n1, fun β a w ht hw hn => wp_cond_true ?_ (k1 β a w ht hw hn)⟩
            exact (vr_bool (cOpd_eval hx ht) true).2 hb
          · rename_i hb
            obtain ⟨n1, k1⟩ := ihn _ _ _ _ _ _ _ h
            refine ⟨n1, fun β a w ht hw hn => wp_cond_false ?_ (k1 β a w ht hw hn)⟩
            exact (vr_bool (cOpd_eval hx ht) false).2 hb
          · cases h
      | block id x =>
        simp only [cCode, evCode] at h
        split at h
        · rename_i j t1 s1 h1
          obtain ⟨n1, k1⟩ := ihn _ _ _ _ _ _ _ h1
          cases hj : Nat.beq j id with
          | true =>
            simp only [hj, Option.some.injEq, Prod.mk.injEq] at h
            obtain ⟨rfl, rfl, rfl⟩ := h
            have := Nat.eq_of_beq_eq_true hj
            subst this
            refine ⟨n1, fun β a w ht hw hn => wp_block (wp_mono (k1 β a w ht hw hn) fun e a' w' hh => ?_)⟩
            obtain ⟨rfl, hh⟩ := hh
            simp only [Ex.to, Exit.inBlock, if_true]
            exact ⟨trivial, hh⟩
          | false =>
            simp only [hj, Option.some.injEq, Prod.mk.injEq] at h
            obtain ⟨rfl, rfl, rfl⟩ := h
            have hne : j ≠ id := fun e => by subst e; rw [Nat.beq_refl] at hj; cases hj
            refine ⟨n1, fun β a w ht hw hn => wp_block (wp_mono (k1 β a w ht hw hn) fun e a' w' hh => ?_)⟩
            obtain ⟨rfl, hh⟩ := hh
            simp only [Ex.to, Exit.inBlock, hne, if_false]
            exact ⟨trivial, hh⟩
        · rename_i r hne
          obtain ⟨n1, k1⟩ := ihn _ _ _ _ _ _ _ h
          refine ⟨n1, fun β a w ht hw hn => wp_block (wp_mono (k1 β a w ht hw hn) fun e a' w' hh => ?_)⟩
          obtain ⟨rfl, hh⟩ := hh
          cases ex with
          | normal => exact ⟨rfl, hh⟩
          | exit id => exact absurd h (hne _ _ _)
          | ret => exact ⟨rfl, hh⟩
      | loop x =>
        -- the rounds
        have next : ∀ m, m ≤ n + 1 → ∀ t s, evCode prog m (.loop (cCode P nt x)) t s = some (ex, t', s') → s.nextId ≤ s'.nextId := by
          intro m
          induction m with
          | zero => intro _ t s h; cases h
          | succ m ihm =>
            intro hm t s h
            simp only [evCode] at h
            split at h
            · rename_i t1 s1 h1
              exact Nat.le_trans (ih m (by omega) _ _ _ _ _ _ _ h1).1 (ihm (by omega) _ _ h)
            · exact (ih m (by omega) _ _ _ _ _ _ _ h).1
        simp only [cCode] at h
        refine ⟨next _ (Nat.le_refl _) _ _ h, fun β a w ht hw hn => ?_⟩
        refine wp_loop_fuel (fun m a1 w1 => m ≤ n + 1 ∧ ∃ t1 s1 β1, evCode prog m (.loop (cCode P nt x)) t1 s1 = some (ex, t', s') ∧ TR β1 t1 a1.tmps ∧ WR base w0 β1 s1 w1 ∧ β.le β1 ∧ Grow s β β1 ∧ s.nextId ≤ s1.nextId ∧ a1.tmps.size = a.tmps.size ∧ a1.defers = a.defers)
          (n := n + 1) ⟨Nat.le_refl _, t, s, β, h, ht, hw, fun _ _ h => h, Grow.refl _ _, Nat.le_refl _, rfl, rfl⟩ fun m a1 w1 hI => ?_
        obtain ⟨hmn, t1, s1, β1, g, j1, j2, j3, j4, j5, j6, j7⟩ := hI
        cases m with
        | zero => cases g
        | succ m =>
          simp only [evCode] at g
          split at g
          · rename_i t2 s2 h1
            obtain ⟨n1, k1⟩ := ih m (by omega) _ _ _ _ _ _ _ h1
            refine wp_mono (k1 β1 a1 w1 j1 j2 (by rw [j6]; exact hn)) fun e a' w' hh => ?_
            obtain ⟨rfl, β2, i1, i2, i3, i4, i5, i6⟩ := hh
            exact ⟨m, Nat.lt_succ_self m, by omega, t2, s2, β2, g, i1, i2, fun A p hA => i3 _ _ (j3 _ _ hA), j4.trans i4 j5, Nat.le_trans j5 n1, i5.trans j6, i6.trans j7⟩
          · rename_i r hne
            obtain ⟨n1, k1⟩ := ih m (by omega) _ _ _ _ _ _ _ g
            refine wp_mono (k1 β1 a1 w1 j1 j2 (by rw [j6]; exact hn)) fun e a' w' hh => ?_
            obtain ⟨rfl, hh⟩ := hh
            cases ex with
            | normal => exact absurd g (hne _ _)
            | exit id => exact ⟨rfl, hh.trans j3 j4 j5 j6 j7⟩
            | ret => exact ⟨rfl, hh.trans j3 j4 j5 j6 j7⟩
      | _ => simp only [cCode] at h; rw [bad] at h; cases h

/-- What the evaluator says of a call is so. -/
theorem call_ok (hm : P.follows .mixedOrders = true) {prog : Nat → Option CFunc} (hp : ProgOk P prog) (n : Nat) : CallOk P base w0 (evCall prog n) := callWith_ok hp (code_ok hm hp n)
end

/-- A function without arguments that yields true, whatever the world. -/
theorem says_true {P : Program} (hm : P.follows .mixedOrders = true) {prog : Nat → Option CFunc} (hp : ProgOk P prog) {n f : Nat} {s' : St} (h : evCall prog n f [] (.mk .nil 0 .nil) = some (.bool true, s')) (w : World) :
    Calls P f #[] w fun e w' => e = .returned (.bool true) ∧ Below w.heap.size w w' := by
  have hw : WR w.heap.size w (fun _ => none) (.mk .nil 0 .nil) w := by
    refine ⟨Below.refl .., Nat.le_refl _, fun A p h => (by cases h), fun A p o h => (by cases h), fun A _ => T.get_nil A, fun A e z cs g k h => ?_, fun A p o h => (by cases h)⟩
    rw [show (St.mk .nil 0 .nil).obj A = none from T.get_nil A] at h; cases h
  refine Calls.mono ((call_ok (base := w.heap.size) (w0 := w) hm hp n _ _ _ _ _ h).2.2 (fun _ => none) w [] hw .nil) fun e w' hh => ?_
  obtain ⟨v', β', rfl, hv, _, _, hwr⟩ := hh
  cases hv
  exact ⟨rfl, hwr.below⟩

def evTrue : Option (Value × St) → Bool
  | some (.bool b, _) => b
  | _ => false

theorem says {P : Program} (hm : P.follows .mixedOrders = true) {prog : Nat → Option CFunc} (hp : ProgOk P prog) {n f : Nat} (h : evTrue (evCall prog n f [] (.mk .nil 0 .nil)) = true) (w : World) :
    Calls P f #[] w fun e w' => e = .returned (.bool true) ∧ Below w.heap.size w w' := by
  unfold evTrue at h
  split at h
  · rename_i b s' he
    subst h
    exact says_true hm hp he w
  · cases h
end Go.Ev
end
