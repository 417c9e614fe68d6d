/- Walking through evaluated code. -/
import Derived.Test.YtehpiiimckodmaaEv3
set_option linter.unusedVariables false
set_option linter.unusedSimpArgs false
section
set_option linter.unusedVariables false
namespace Go.EvW
open Go Go.Ev _root_.Ev

abbrev Env := Nat → Value

def _root_.Go.Ev.Opd.evE (ρ : Env) : Opd → Value
  | .c v => v
  | .t n => ρ n

def evsE (ρ : Env) : List Opd → List Value
  | [] => []
  | x :: xs => x.evE ρ :: evsE ρ xs

def upd (ρ : Env) (k : Nat) (v : Value) : Env := fun j => bif Nat.beq j k then v else ρ j

def Agree (t : T Value) (ρ : Env) : Prop := ∀ k, Opd.ev t (.t k) = ρ k

theorem Agree.ev {t : T Value} {ρ : Env} (h : Agree t ρ) (x : Opd) : x.ev t = x.evE ρ := by
  cases x with
  | t n => exact h n
  | c v => rfl

theorem Agree.evs {t : T Value} {ρ : Env} (h : Agree t ρ) : ∀ l : List Opd, evs t l = evsE ρ l
  | [] => rfl
  | x :: l => by simp only [Ev.evs, evsE, h.ev, Agree.evs h l]

theorem Agree.set {t : T Value} {ρ : Env} (h : Agree t ρ) (k : Nat) (v : Value) : Agree (t.set k v) (upd ρ k v) := by
  intro j
  simp only [Opd.ev, T.get_set, upd]
  by_cases e : j = k
  · subst e; simp
  · have : Nat.beq j k = false := by
      cases hb : Nat.beq j k with
      | false => rfl
      | true => exact absurd (Nat.eq_of_beq_eq_true hb) e
    rw [if_neg e, this]
    exact h j

/-- The value of a temporary put ahead again. -/
theorem upd_eta {ρ : Env} {k : Nat} {v : Value} (h : ρ k = v) : upd ρ k v = ρ := by
  funext j
  unfold upd
  cases hb : Nat.beq j k with
  | false => rfl
  | true => have := Nat.eq_of_beq_eq_true hb; subst this; exact h.symm

def initE : List Value → Nat → Env → Env
  | [], _, ρ => ρ
  | v :: r, i, ρ => initE r (i + 1) (upd ρ i v)

def env0 : Env := fun _ => undefV

theorem Agree.init : ∀ (l : List Value) (i : Nat) (t : T Value) (ρ : Env), Agree t ρ → Agree (initT l i t) (initE l i ρ)
  | [], _, _, _, h => h
  | v :: l, i, t, ρ, h => Agree.init l (i + 1) _ _ (h.set i v)

theorem Agree.nil : Agree .nil env0 := fun k => by simp [Opd.ev, T.get_nil, env0]

/-! ### more fuel -/

def Le (c c' : CallF) : Prop := ∀ f args s r, c f args s = some r → c' f args s = some r

theorem stepOp_le {c c' : CallF} (h : Le c c') {t : T Value} {s : St} {o : COp} {r : Value × St} (hs : stepOp c t s o = some r) : stepOp c' t s o = some r := by
  unfold stepOp at *
  split at hs
  · exact h _ _ _ _ hs
  · split at hs
    · exact h _ _ _ _ hs
    · cases hs
  · exact hs

theorem runOps_le {c c' : CallF} (h : Le c c') : ∀ (l : List CE) (t : T Value) (s : St) (r : T Value × St), runOps c l t s = some r → runOps c' l t s = some r
  | [], _, _, _, hs => hs
  | e :: l, t, s, r, hs => by
    simp only [runOps, stepOpF_eq, forceT_eq, forceV_eq, forceS_eq] at hs ⊢
    cases hw : wanted t e.guard with
    | true =>
      simp only [hw] at hs ⊢
      cases ho : stepOp c t s e.op with
      | none => simp [ho] at hs
      | some p => rw [ho] at hs; rw [stepOp_le h ho]; exact runOps_le h l _ _ _ hs
    | false => simp only [hw] at hs ⊢; exact runOps_le h l _ _ _ hs

theorem runDraw_le {c c' : CallF} (h : Le c c') : ∀ (l : List (CE × Nat)) (k : Nat) (os : List Ev.Open) (t : T Value) (s : St) (r : T Value × St), runDraw c l k os t s = some r → runDraw c' l k os t s = some r
  | [], _, _, _, _, _, hs => hs
  | (e, hi) :: l, k, os, t, s, r, hs => by
    simp only [runDraw, stepOpF_eq, forceT_eq, forceV_eq, forceS_eq] at hs ⊢
    cases hw : wanted t e.guard with
    | true =>
      simp only [hw] at hs ⊢
      cases ho : stepOp c t s e.op with
      | none => simp [ho] at hs
      | some p =>
        rw [ho] at hs; rw [stepOp_le h ho]
        simp only at hs ⊢
        cases hc : e.op.cls with
        | pure => simp only [hc] at hs ⊢; exact runDraw_le h l _ _ _ _ _ hs
        | read => simp only [hc] at hs ⊢; exact runDraw_le h l _ _ _ _ _ hs
        | make =>
          simp only [hc] at hs ⊢
          split at hs
          · rename_i o hob
            split at hs
            · exact runDraw_le h l _ _ _ _ _ hs
            · cases hs
          · cases hs
        | eff =>
          simp only [hc] at hs ⊢
          split at hs
          · exact runDraw_le h l _ _ _ _ _ hs
          · cases hs
    | false =>
      simp only [hw] at hs ⊢
      split at hs
      · exact runDraw_le h l _ _ _ _ _ hs
      · exact runDraw_le h l _ _ _ _ _ hs

theorem callWith_le {prog : Nat → Option CFunc} {q q' : CCode → T Value → St → Option (Ex × T Value × St)} (h : ∀ c t s r, q c t s = some r → q' c t s = some r) : Le (callWith prog q) (callWith prog q') := by
  intro f args s r hs
  unfold callWith at *
  cases hp : prog f with
  | none => simp [hp] at hs
  | some fn =>
    simp only [hp] at hs ⊢
    cases hk : okArgs fn.ntmps args with
    | false => simp [hk] at hs
    | true =>
      simp only [hk] at hs ⊢
      cases hq : q fn.body (initT args 0 .nil) s with
      | none => simp [hq] at hs
      | some p => rw [hq] at hs; rw [h _ _ _ _ hq]; exact hs

theorem evCode_le1 {prog : Nat → Option CFunc} : ∀ (n : Nat) (c : CCode) (t : T Value) (s : St) (r : Ex × T Value × St), evCode prog n c t s = some r → evCode prog (n + 1) c t s = some r
  | 0, _, _, _, _, h => by cases h
  | n + 1, c, t, s, r, h => by
    have ih := evCode_le1 (prog := prog) n
    have hc := callWith_le (prog := prog) ih
    cases c with
    | skip => simpa [evCode] using h
    | reg ops =>
      simp only [evCode] at h ⊢
      cases ho : runOps (callWith prog (evCode prog n)) ops t s with
      | none => simp [ho] at h
      | some p => rw [ho] at h; have := runOps_le hc _ _ _ _ ho; simp only [evCode] at this; rw [this]; exact h
    | draw ops =>
      simp only [evCode] at h ⊢
      cases ho : runDraw (callWith prog (evCode prog n)) ops 0 [] t s with
      | none => simp [ho] at h
      | some p => rw [ho] at h; have := runDraw_le hc _ _ _ _ _ _ ho; simp only [evCode] at this; rw [this]; exact h
    | seq a b =>
      rw [evCode] at h
      rw [evCode]
      cases ha : evCode prog n a t s with
      | none => simp [ha] at h
      | some p =>
        obtain ⟨e, t1, s1⟩ := p
        rw [ha] at h
        rw [ih _ _ _ _ ha]
        cases e with
        | normal => exact ih _ _ _ _ h
        | exit j => exact h
        | ret => exact h
    | cond x a b =>
      rw [evCode] at h
      rw [evCode]
      split at h
      · exact ih _ _ _ _ h
      · exact ih _ _ _ _ h
      · cases h
    | block id a =>
      rw [evCode] at h
      rw [evCode]
      cases ha : evCode prog n a t s with
      | none => simp [ha] at h
      | some p => rw [ha] at h; rw [ih _ _ _ _ ha]; exact h
    | loop a =>
      rw [evCode] at h
      rw [evCode]
      cases ha : evCode prog n a t s with
      | none => simp [ha] at h
      | some p =>
        obtain ⟨e, t1, s1⟩ := p
        rw [ha] at h
        rw [ih _ _ _ _ ha]
        cases e with
        | normal => exact ih _ _ _ _ h
        | exit j => exact h
        | ret => exact h
    | exit id => simpa [evCode] using h
    | ret => simpa [evCode] using h

theorem evCode_le {prog : Nat → Option CFunc} {n m : Nat} (hnm : n ≤ m) {c : CCode} {t : T Value} {s : St} {r : Ex × T Value × St} (h : evCode prog n c t s = some r) : evCode prog m c t s = some r := by
  induction hnm with
  | refl => exact h
  | step _ ih => exact evCode_le1 _ _ _ _ _ ih

theorem evCall_le {prog : Nat → Option CFunc} {n m : Nat} (hnm : n ≤ m) : Le (evCall prog n) (evCall prog m) := callWith_le fun _ _ _ _ h => evCode_le hnm h

/-! ### what comes out, and what is true then -/

section
variable {prog : Nat → Option CFunc}

def Wf (prog : Nat → Option CFunc) (f : Nat) (args : List Value) (s : St) (Q : Value → St → Prop) : Prop :=
  ∃ n v s', evCall prog n f args s = some (v, s') ∧ Q v s'

def Wo (prog : Nat → Option CFunc) (l : List CE) (ρ : Env) (s : St) (Q : Env → St → Prop) : Prop :=
  ∀ t, Agree t ρ → ∃ n t' s' ρ', runOps (evCall prog n) l t s = some (t', s') ∧ Agree t' ρ' ∧ Q ρ' s'

def Wd (prog : Nat → Option CFunc) (l : List (CE × Nat)) (k : Nat) (H : Nat → St → Prop) (ρ : Env) (s : St) (Q : Env → St → Prop) : Prop :=
  ∀ t os, Agree t ρ → (∀ k' s', H k' s' → holdAll s' k' os = true) → ∃ n t' s' ρ', runDraw (evCall prog n) l k os t s = some (t', s') ∧ Agree t' ρ' ∧ Q ρ' s'

def Post (K R : Env → St → Prop) (X : Nat → Env → St → Prop) (e : Ex) (ρ : Env) (s : St) : Prop :=
  match e with
  | .normal => K ρ s
  | .ret => R ρ s
  | .exit j => X j ρ s

def Wc (prog : Nat → Option CFunc) (c : CCode) (ρ : Env) (s : St) (K R : Env → St → Prop) (X : Nat → Env → St → Prop) : Prop :=
  ∀ t, Agree t ρ → ∃ n e t' s' ρ', evCode prog n c t s = some (e, t', s') ∧ Agree t' ρ' ∧ Post K R X e ρ' s'

variable {c c' : CCode} {ρ : Env} {s : St} {K K' R R' : Env → St → Prop} {X X' : Nat → Env → St → Prop} {Q Q' : Env → St → Prop}

theorem Wf.mono {f : Nat} {args : List Value} {Q Q' : Value → St → Prop} (h : Wf prog f args s Q) (hq : ∀ v s', Q v s' → Q' v s') : Wf prog f args s Q' := by
  obtain ⟨n, v, s', h1, h2⟩ := h
  exact ⟨n, v, s', h1, hq _ _ h2⟩

theorem Wc.mono (h : Wc prog c ρ s K R X) (hk : ∀ ρ s, K ρ s → K' ρ s) (hr : ∀ ρ s, R ρ s → R' ρ s) (hx : ∀ j ρ s, X j ρ s → X' j ρ s) : Wc prog c ρ s K' R' X' := by
  intro t ht
  obtain ⟨n, e, t', s', ρ', h1, h2, h3⟩ := h t ht
  refine ⟨n, e, t', s', ρ', h1, h2, ?_⟩
  cases e with
  | normal => exact hk _ _ h3
  | ret => exact hr _ _ h3
  | exit j => exact hx _ _ _ h3

theorem Wc.skip (h : K ρ s) : Wc prog .skip ρ s K R X := fun t ht => ⟨1, .normal, t, s, ρ, rfl, ht, h⟩
theorem Wc.exit {id : Nat} (h : X id ρ s) : Wc prog (.exit id) ρ s K R X := fun t ht => ⟨1, .exit id, t, s, ρ, rfl, ht, h⟩
theorem Wc.ret (h : R ρ s) : Wc prog .ret ρ s K R X := fun t ht => ⟨1, .ret, t, s, ρ, rfl, ht, h⟩

theorem Wc.reg {l : List CE} (h : Wo prog l ρ s K) : Wc prog (.reg l) ρ s K R X := by
  intro t ht
  obtain ⟨n, t', s', ρ', h1, h2, h3⟩ := h t ht
  refine ⟨n + 1, .normal, t', s', ρ', ?_, h2, h3⟩
  simp only [evCode]
  unfold evCall at h1
  rw [h1]

theorem Wc.draw {l : List (CE × Nat)} (h : Wd prog l 0 (fun _ _ => True) ρ s K) : Wc prog (.draw l) ρ s K R X := by
  intro t ht
  obtain ⟨n, t', s', ρ', h1, h2, h3⟩ := h t [] ht (fun _ _ _ => rfl)
  refine ⟨n + 1, .normal, t', s', ρ', ?_, h2, h3⟩
  simp only [evCode]
  unfold evCall at h1
  rw [h1]

theorem Wc.seq {a b : CCode} (h : Wc prog a ρ s (fun ρ' s' => Wc prog b ρ' s' K R X) R X) : Wc prog (.seq a b) ρ s K R X := by
  intro t ht
  obtain ⟨n, e, t', s', ρ', h1, h2, h3⟩ := h t ht
  cases e with
  | normal =>
    obtain ⟨m, e', t2, s2, ρ2, k1, k2, k3⟩ := h3 t' h2
    refine ⟨max n m + 1, e', t2, s2, ρ2, ?_, k2, k3⟩
    rw [evCode, evCode_le (Nat.le_max_left n m) h1]
    exact evCode_le (Nat.le_max_right n m) k1
  | ret => exact ⟨n + 1, .ret, t', s', ρ', by rw [evCode, h1], h2, h3⟩
  | exit j => exact ⟨n + 1, .exit j, t', s', ρ', by rw [evCode, h1], h2, h3⟩

theorem Wc.iteB {x : Opd} {a b : CCode} {z : Bool} (hx : x.evE ρ = .bool z) (ha : z = true → Wc prog a ρ s K R X) (hb : z = false → Wc prog b ρ s K R X) : Wc prog (.cond x a b) ρ s K R X := by
  intro t ht
  have hx' : x.ev t = .bool z := by rw [ht.ev, hx]
  cases z with
  | true =>
    obtain ⟨n, e, t', s', ρ', h1, h2, h3⟩ := ha rfl t ht
    exact ⟨n + 1, e, t', s', ρ', by rw [evCode, hx']; exact h1, h2, h3⟩
  | false =>
    obtain ⟨n, e, t', s', ρ', h1, h2, h3⟩ := hb rfl t ht
    exact ⟨n + 1, e, t', s', ρ', by rw [evCode, hx']; exact h1, h2, h3⟩

theorem Wc.ite {x : Opd} {a b : CCode} {p : Prop} [Decidable p] (hx : x.evE ρ = .bool (decide p)) (ha : p → Wc prog a ρ s K R X) (hb : ¬p → Wc prog b ρ s K R X) : Wc prog (.cond x a b) ρ s K R X :=
  Wc.iteB hx (fun h => ha (of_decide_eq_true h)) (fun h => hb (of_decide_eq_false h))

theorem Wc.yes {x : Opd} {a b : CCode} (hx : x.evE ρ = .bool true) (ha : Wc prog a ρ s K R X) : Wc prog (.cond x a b) ρ s K R X := Wc.iteB hx (fun _ => ha) (fun h => by cases h)
theorem Wc.no {x : Opd} {a b : CCode} (hx : x.evE ρ = .bool false) (hb : Wc prog b ρ s K R X) : Wc prog (.cond x a b) ρ s K R X := Wc.iteB hx (fun h => by cases h) (fun _ => hb)

theorem Wc.block {id : Nat} {a : CCode} (h : Wc prog a ρ s K R (fun j ρ s => (j = id ∧ K ρ s) ∨ (j ≠ id ∧ X j ρ s))) : Wc prog (.block id a) ρ s K R X := by
  intro t ht
  obtain ⟨n, e, t', s', ρ', h1, h2, h3⟩ := h t ht
  cases e with
  | normal => exact ⟨n + 1, .normal, t', s', ρ', by rw [evCode, h1], h2, h3⟩
  | ret => exact ⟨n + 1, .ret, t', s', ρ', by rw [evCode, h1], h2, h3⟩
  | exit j =>
    rcases h3 with ⟨rfl, h3⟩ | ⟨hj, h3⟩
    · exact ⟨n + 1, .normal, t', s', ρ', by rw [evCode, h1]; simp only [Nat.beq_refl], h2, h3⟩
    · refine ⟨n + 1, .exit j, t', s', ρ', ?_, h2, h3⟩
      rw [evCode, h1]
      cases hb : Nat.beq j id with
      | true => exact absurd (Nat.eq_of_beq_eq_true hb) hj
      | false => simp only [hb]

theorem Wc.loop {a : CCode} (I : Nat → Env → St → Prop) (h0 : ∃ m, I m ρ s) (h : ∀ m ρ s, I m ρ s → Wc prog a ρ s (fun ρ' s' => ∃ m', m' < m ∧ I m' ρ' s') R X) : Wc prog (.loop a) ρ s K R X := by
  obtain ⟨m, h0⟩ := h0
  induction m using Nat.strongRecOn generalizing ρ s with
  | _ m ih =>
    intro t ht
    obtain ⟨n, e, t', s', ρ', h1, h2, h3⟩ := h m ρ s h0 t ht
    cases e with
    | normal =>
      obtain ⟨m', hm, h3⟩ := h3
      obtain ⟨k, e', t2, s2, ρ2, k1, k2, k3⟩ := ih m' hm h3 t' h2
      refine ⟨max n k + 1, e', t2, s2, ρ2, ?_, k2, k3⟩
      rw [evCode, evCode_le (Nat.le_max_left n k) h1]
      exact evCode_le (Nat.le_max_right n k) k1
    | ret => exact ⟨n + 1, .ret, t', s', ρ', by rw [evCode, h1], h2, h3⟩
    | exit j => exact ⟨n + 1, .exit j, t', s', ρ', by rw [evCode, h1], h2, h3⟩

theorem Wc.mid (M : Env → St → Prop) (h : Wc prog c ρ s M R X) (k : ∀ ρ s, M ρ s → K ρ s) : Wc prog c ρ s K R X := h.mono k (fun _ _ h => h) (fun _ _ _ h => h)

theorem Wc.fix {k : Nat} {v : Value} (h : ρ k = v) (hc : Wc prog c (upd ρ k v) s K R X) : Wc prog c ρ s K R X := by rwa [upd_eta h] at hc
theorem Wo.fix {l : List CE} {k : Nat} {v : Value} (h : ρ k = v) (hc : Wo prog l (upd ρ k v) s Q) : Wo prog l ρ s Q := by rwa [upd_eta h] at hc
theorem Wd.fix {l : List (CE × Nat)} {i : Nat} {H : Nat → St → Prop} {k : Nat} {v : Value} (h : ρ k = v) (hc : Wd prog l i H (upd ρ k v) s Q) : Wd prog l i H ρ s Q := by rwa [upd_eta h] at hc

theorem Wo.cases {l : List CE} {j : Nat} {p : Prop} [Decidable p] (h : ρ j = .bool (decide p)) (ht : p → Wo prog l (upd ρ j (.bool true)) s Q) (hf : ¬p → Wo prog l (upd ρ j (.bool false)) s Q) : Wo prog l ρ s Q := by
  by_cases hp : p
  · exact Wo.fix (by rw [h, decide_eq_true hp]) (ht hp)
  · exact Wo.fix (by rw [h, decide_eq_false hp]) (hf hp)
theorem Wo.casesB {l : List CE} {j : Nat} {b : Bool} (h : ρ j = .bool b) (ht : b = true → Wo prog l (upd ρ j (.bool true)) s Q) (hf : b = false → Wo prog l (upd ρ j (.bool false)) s Q) : Wo prog l ρ s Q := by
  cases b with
  | true => exact Wo.fix h (ht rfl)
  | false => exact Wo.fix h (hf rfl)
theorem Wd.cases {l : List (CE × Nat)} {i : Nat} {H : Nat → St → Prop} {j : Nat} {p : Prop} [Decidable p] (h : ρ j = .bool (decide p)) (ht : p → Wd prog l i H (upd ρ j (.bool true)) s Q) (hf : ¬p → Wd prog l i H (upd ρ j (.bool false)) s Q) : Wd prog l i H ρ s Q := by
  by_cases hp : p
  · exact Wd.fix (by rw [h, decide_eq_true hp]) (ht hp)
  · exact Wd.fix (by rw [h, decide_eq_false hp]) (hf hp)
theorem Wd.casesB {l : List (CE × Nat)} {i : Nat} {H : Nat → St → Prop} {j : Nat} {b : Bool} (h : ρ j = .bool b) (ht : b = true → Wd prog l i H (upd ρ j (.bool true)) s Q) (hf : b = false → Wd prog l i H (upd ρ j (.bool false)) s Q) : Wd prog l i H ρ s Q := by
  cases b with
  | true => exact Wd.fix h (ht rfl)
  | false => exact Wd.fix h (hf rfl)

/-! ### results, calls -/

def Rs (ρ : Env) (s : St) (rs : List CRes) (vs : List Value) : Prop := ∀ t, Agree t ρ → resF t s rs = some vs

theorem Rs.nil : Rs ρ s [] [] := fun _ _ => rfl
theorem Rs.tmp {n : Nat} {rs : List CRes} {v : Value} {vs : List Value} (h : ρ n = v) (hr : Rs ρ s rs vs) : Rs ρ s (.tmp n :: rs) (v :: vs) := by
  intro t ht
  simp only [resF, ht n, h, hr t ht]
theorem Rs.cell {a A o : Nat} {rs : List CRes} {v : Value} {vs cs : List Value} (h : ρ a = ptrV A o) (hc : s.cellsOf A = some cs) (hv : cs[o]? = some v) (hr : Rs ρ s rs vs) : Rs ρ s (.cell a :: rs) (v :: vs) := by
  intro t ht
  simp only [resF, ht a, h, ptrV, addrOf, hc, nth_eq, hv, hr t ht]
theorem Rs.cells {a A o n : Nat} {rs : List CRes} {r : List Value} {vs cs : List Value} (h : ρ a = ptrV A o) (hc : s.cellsOf A = some cs) (hv : cut cs o n = some r) (hr : Rs ρ s rs vs) : Rs ρ s (.cells n a :: rs) (.agg ⟨r⟩ :: vs) := by
  intro t ht
  simp only [resF, ht a, h, ptrV, addrOf, hc, hv, hr t ht]

theorem Wf.of {f : Nat} {fn : CFunc} {args : List Value} {Q : Value → St → Prop} (hp : prog f = some fn) (hok : okArgs fn.ntmps args = true)
    (h : Wc prog fn.body (initE args 0 env0) s (fun ρ' s' => ∃ vs, Rs ρ' s' fn.res vs ∧ Q (retV vs) s') (fun ρ' s' => ∃ vs, Rs ρ' s' fn.res vs ∧ Q (retV vs) s') (fun _ _ _ => False)) : Wf prog f args s Q := by
  obtain ⟨n, e, t', s', ρ', h1, h2, h3⟩ := h _ (Agree.init args 0 .nil env0 Agree.nil)
  cases e with
  | exit j => exact h3.elim
  | normal =>
    obtain ⟨vs, h4, h5⟩ := h3
    refine ⟨n, retV vs, s', ?_, h5⟩
    unfold evCall callWith
    simp only [hp, hok, h1, h4 t' h2]
  | ret =>
    obtain ⟨vs, h4, h5⟩ := h3
    refine ⟨n, retV vs, s', ?_, h5⟩
    unfold evCall callWith
    simp only [hp, hok, h1, h4 t' h2]

/-! ### operations -/

def Step (ρ : Env) (s : St) (o : COp) (v : Value) (s' : St) : Prop := ∀ t, Agree t ρ → doOp t s o = some (v, s')

theorem Step.run {o : COp} {v : Value} {s' : St} (h : Step ρ s o v s') {t : T Value} (ht : Agree t ρ) (call : CallF) : stepOp call t s o = some (v, s') := by
  have := h t ht
  unfold stepOp
  split
  · simp [doOp] at this
  · simp [doOp] at this
  · exact this

theorem Wo.nil (h : Q ρ s) : Wo prog [] ρ s Q := fun t ht => ⟨0, t, s, ρ, rfl, ht, h⟩

def putE (ρ : Env) (d : Option Nat) (v : Value) : Env := match d with
  | some d => upd ρ d v
  | none => ρ

theorem Agree.put {t : T Value} (h : Agree t ρ) (d : Option Nat) (v : Value) : Agree (put t d v) (putE ρ d v) := by
  cases d with
  | none => exact h
  | some d => exact h.set d v

theorem Wo.opP {d : Option Nat} {o : COp} {r : List CE} {v : Value} {s' : St} (h : Step ρ s o v s') (k : Wo prog r (putE ρ d v) s' Q) : Wo prog (⟨d, o, none⟩ :: r) ρ s Q := by
  intro t ht
  obtain ⟨n, t', s'', ρ', h1, h2, h3⟩ := k _ (ht.put d v)
  refine ⟨n, t', s'', ρ', ?_, h2, h3⟩
  simp only [runOps, stepOpF_eq, forceT_eq, forceV_eq, forceS_eq, wanted, h.run ht]
  exact h1

theorem Wo.op {d : Nat} {o : COp} {r : List CE} {v : Value} {s' : St} (h : Step ρ s o v s') (k : Wo prog r (upd ρ d v) s' Q) : Wo prog (⟨some d, o, none⟩ :: r) ρ s Q := Wo.opP h k
theorem Wo.op0 {o : COp} {r : List CE} {v : Value} {s' : St} (h : Step ρ s o v s') (k : Wo prog r ρ s' Q) : Wo prog (⟨none, o, none⟩ :: r) ρ s Q := Wo.opP h k

theorem Wo.callP {d : Option Nat} {f : Nat} {args : List Opd} {r : List CE} (h : Wf prog f (evsE ρ args) s (fun v s' => Wo prog r (putE ρ d v) s' Q)) : Wo prog (⟨d, .call f args, none⟩ :: r) ρ s Q := by
  intro t ht
  obtain ⟨n, v, s', h1, h2⟩ := h
  obtain ⟨m, t', s'', ρ', k1, k2, k3⟩ := h2 _ (ht.put d v)
  refine ⟨max n m, t', s'', ρ', ?_, k2, k3⟩
  have e : stepOp (evCall prog (max n m)) t s (.call f args) = some (v, s') := by
    simp only [stepOp, ht.evs]
    exact evCall_le (Nat.le_max_left n m) _ _ _ _ h1
  simp only [runOps, stepOpF_eq, forceT_eq, forceV_eq, forceS_eq, wanted, e]
  exact runOps_le (evCall_le (Nat.le_max_right n m)) _ _ _ _ k1

theorem Wo.call {d : Nat} {f : Nat} {args : List Opd} {r : List CE} (h : Wf prog f (evsE ρ args) s (fun v s' => Wo prog r (upd ρ d v) s' Q)) : Wo prog (⟨some d, .call f args, none⟩ :: r) ρ s Q := Wo.callP (d := some d) h
theorem Wo.call0 {f : Nat} {args : List Opd} {r : List CE} (h : Wf prog f (evsE ρ args) s (fun v s' => Wo prog r ρ s' Q)) : Wo prog (⟨none, .call f args, none⟩ :: r) ρ s Q := Wo.callP (d := none) h

theorem Wo.callv {d : Nat} {x : Opd} {f : Nat} {a b : List Value} {args : List Opd} {r : List CE} (hx : x.evE ρ = .func (.func f) ⟨a⟩ ⟨b⟩) (h : Wf prog f (a ++ (evsE ρ args ++ b)) s (fun v s' => Wo prog r (upd ρ d v) s' Q)) : Wo prog (⟨some d, .callv x args, none⟩ :: r) ρ s Q := by
  intro t ht
  obtain ⟨n, v, s', h1, h2⟩ := h
  obtain ⟨m, t', s'', ρ', k1, k2, k3⟩ := h2 _ (ht.set d v)
  refine ⟨max n m, t', s'', ρ', ?_, k2, k3⟩
  have e : stepOp (evCall prog (max n m)) t s (.callv x args) = some (v, s') := by
    simp only [stepOp, ht.evs, ht.ev, hx, app_eq]
    exact evCall_le (Nat.le_max_left n m) _ _ _ _ h1
  simp only [runOps, stepOpF_eq, forceT_eq, forceV_eq, forceS_eq, wanted, e, Ev.put]
  exact runOps_le (evCall_le (Nat.le_max_right n m)) _ _ _ _ k1

theorem agree_bool {t : T Value} (ht : Agree t ρ) {j : Nat} {b : Bool} (h : ρ j = .bool b) : t.get j = some (.bool b) := by
  have := ht j
  rw [h] at this
  simp only [Opd.ev] at this
  cases hg : t.get j with
  | none => rw [hg] at this; simp [undefV] at this
  | some v => rw [hg] at this; simp at this; rw [this]

theorem Wo.on {d : Option Nat} {o : COp} {j : Nat} {w : Bool} {r : List CE} (h : ρ j = .bool w) (k : Wo prog (⟨d, o, none⟩ :: r) ρ s Q) : Wo prog (⟨d, o, some (j, w)⟩ :: r) ρ s Q := by
  intro t ht
  obtain ⟨n, t', s', ρ', h1, h2, h3⟩ := k t ht
  refine ⟨n, t', s', ρ', ?_, h2, h3⟩
  simp only [runOps, wanted] at h1
  have : wanted t (some (j, w)) = true := by simp only [wanted, agree_bool ht h]; cases w <;> rfl
  simp only [runOps, this]
  exact h1

theorem Wo.offP {d : Option Nat} {o : COp} {j : Nat} {w b : Bool} {r : List CE} (h : ρ j = .bool b) (hb : b = !w) (k : Wo prog r (putE ρ d undefV) s Q) : Wo prog (⟨d, o, some (j, w)⟩ :: r) ρ s Q := by
  intro t ht
  obtain ⟨n, t', s', ρ', h1, h2, h3⟩ := k _ (ht.put d undefV)
  refine ⟨n, t', s', ρ', ?_, h2, h3⟩
  have : wanted t (some (j, w)) = false := by simp only [wanted, agree_bool ht h, hb]; cases w <;> rfl
  simp only [runOps, this, forceT_eq]
  exact h1

theorem Wo.off {d : Nat} {o : COp} {j : Nat} {w b : Bool} {r : List CE} (h : ρ j = .bool b) (hb : b = !w) (k : Wo prog r (upd ρ d undefV) s Q) : Wo prog (⟨some d, o, some (j, w)⟩ :: r) ρ s Q := Wo.offP h hb k

/-! ### regions that draw -/

section
variable {k hi : Nat} {H : Nat → St → Prop}
theorem Wd.nil (h : Q ρ s) : Wd prog [] k H ρ s Q := fun t os ht _ => ⟨0, t, s, ρ, rfl, ht, h⟩

theorem Wd.weaken {H' : Nat → St → Prop} {l : List (CE × Nat)} (hh : ∀ k s, H k s → H' k s) (h : Wd prog l k H ρ s Q) : Wd prog l k H' ρ s Q := by
  intro t os ht ho
  exact h t os ht fun k' s' hk => ho k' s' (hh _ _ hk)

theorem Wd.pure {d : Nat} {o : COp} {r : List (CE × Nat)} {v : Value} (hc : o.cls = .pure) (h : Step ρ s o v s) (K : Wd prog r k H (upd ρ d v) s Q) : Wd prog ((⟨some d, o, none⟩, hi) :: r) k H ρ s Q := by
  intro t os ht hos
  obtain ⟨n, t', s'', ρ', h1, h2, h3⟩ := K _ os (ht.set d v) hos
  refine ⟨n, t', s'', ρ', ?_, h2, h3⟩
  simp only [runDraw, stepOpF_eq, forceT_eq, forceV_eq, forceS_eq, wanted, h.run ht, hc]
  exact h1

theorem holdAll_cons {x : Ev.Open} {xs : List Ev.Open} : holdAll s k (x :: xs) = true ↔ x.holds s k = true ∧ holdAll s k xs = true := by
  simp only [holdAll]
  cases x.holds s k <;> simp

theorem holds_read1 {t : T Value} (ht : Agree t ρ) {o : COp} {v : Value} {hi k : Nat} {s : St} (h : k ≤ hi → ∃ v' s'', Step ρ s o v' s'' ∧ veq v v' = true) : Ev.Open.holds s k (.read t o v hi) = true := by
  simp only [Ev.Open.holds]
  cases hb : Nat.ble k hi with
  | false => rfl
  | true =>
    obtain ⟨v', s'', h1, h2⟩ := h (Nat.le_of_ble_eq_true hb)
    simp only [doOpF_eq, h1 t ht, h2]

theorem Wd.read {d : Nat} {o : COp} {r : List (CE × Nat)} {v : Value} (hc : o.cls = .read) (h : Step ρ s o v s)
    (K : Wd prog r k (fun k' s' => (k' ≤ hi → ∃ v' s'', Step ρ s' o v' s'' ∧ veq v v' = true) ∧ H k' s') (upd ρ d v) s Q) : Wd prog ((⟨some d, o, none⟩, hi) :: r) k H ρ s Q := by
  intro t os ht hos
  obtain ⟨n, t', s'', ρ', h1, h2, h3⟩ := K _ (.read t o v hi :: os) (ht.set d v) (fun k' s' hh => holdAll_cons.2 ⟨holds_read1 ht hh.1, hos _ _ hh.2⟩)
  refine ⟨n, t', s'', ρ', ?_, h2, h3⟩
  simp only [runDraw, stepOpF_eq, forceT_eq, forceV_eq, forceS_eq, wanted, h.run ht, hc]
  exact h1

theorem Wd.make {d : Nat} {o : COp} {r : List (CE × Nat)} {v : Value} {s' : St} {ob : AObj} (hc : o.cls = .make) (h : Step ρ s o v s') (ho : s'.obj s.nextId = some ob) (hh : H k s')
    (K : Wd prog r k (fun k' s'' => (k' ≤ hi → ∃ ob', s''.obj s.nextId = some ob' ∧ objEq ob ob' = true) ∧ H k' s'') (upd ρ d v) s' Q) : Wd prog ((⟨some d, o, none⟩, hi) :: r) k H ρ s Q := by
  intro t os ht hos
  have hm : ∀ k' s'', ((k' ≤ hi → ∃ ob', s''.obj s.nextId = some ob' ∧ objEq ob ob' = true) ∧ H k' s'') → holdAll s'' k' (.make s.nextId ob hi :: os) = true := by
    intro k' s2 hh
    refine holdAll_cons.2 ⟨?_, hos _ _ hh.2⟩
    simp only [Ev.Open.holds]
    cases hb : Nat.ble k' hi with
    | false => rfl
    | true =>
      obtain ⟨ob', e1, e2⟩ := hh.1 (Nat.le_of_ble_eq_true hb)
      cases s2 with | mk hp nx ep => simp only [St.obj] at e1; simp only [e1, e2]
  obtain ⟨n, t', s'', ρ', h1, h2, h3⟩ := K _ (.make s.nextId ob hi :: os) (ht.set d v) hm
  refine ⟨n, t', s'', ρ', ?_, h2, h3⟩
  simp only [runDraw, stepOpF_eq, forceT_eq, forceV_eq, forceS_eq, wanted, h.run ht, hc, ho, hos _ _ hh]
  exact h1

theorem Wd.eff {d : Nat} {o : COp} {r : List (CE × Nat)} {v : Value} {s' : St} (hc : o.cls = .eff) (h : Step ρ s o v s') (hh : H (k + 1) s') (K : Wd prog r (k + 1) H (upd ρ d v) s' Q) : Wd prog ((⟨some d, o, none⟩, hi) :: r) k H ρ s Q := by
  intro t os ht hos
  obtain ⟨n, t', s'', ρ', h1, h2, h3⟩ := K _ os (ht.set d v) hos
  refine ⟨n, t', s'', ρ', ?_, h2, h3⟩
  have := hos _ _ hh
  simp only [runDraw, stepOpF_eq, forceT_eq, forceV_eq, forceS_eq, wanted, h.run ht, hc, Nat.succ_eq_add_one, this]
  exact h1

theorem Wd.eff0 {o : COp} {r : List (CE × Nat)} {v : Value} {s' : St} (hc : o.cls = .eff) (h : Step ρ s o v s') (hh : H (k + 1) s') (K : Wd prog r (k + 1) H ρ s' Q) : Wd prog ((⟨none, o, none⟩, hi) :: r) k H ρ s Q := by
  intro t os ht hos
  obtain ⟨n, t', s'', ρ', h1, h2, h3⟩ := K _ os ht hos
  refine ⟨n, t', s'', ρ', ?_, h2, h3⟩
  have := hos _ _ hh
  simp only [runDraw, stepOpF_eq, forceT_eq, forceV_eq, forceS_eq, wanted, h.run ht, hc, Nat.succ_eq_add_one, this]
  exact h1

theorem Wd.call {d : Nat} {f : Nat} {args : List Opd} {r : List (CE × Nat)} (h : Wf prog f (evsE ρ args) s (fun v s' => H (k + 1) s' ∧ Wd prog r (k + 1) H (upd ρ d v) s' Q)) : Wd prog ((⟨some d, .call f args, none⟩, hi) :: r) k H ρ s Q := by
  intro t os ht hos
  obtain ⟨n, v, s', h1, hh, h2⟩ := h
  obtain ⟨m, t', s'', ρ', k1, k2, k3⟩ := h2 _ os (ht.set d v) hos
  refine ⟨max n m, t', s'', ρ', ?_, k2, k3⟩
  have e : stepOp (evCall prog (max n m)) t s (.call f args) = some (v, s') := by
    simp only [stepOp, ht.evs]
    exact evCall_le (Nat.le_max_left n m) _ _ _ _ h1
  have := hos _ _ hh
  simp only [runDraw, stepOpF_eq, forceT_eq, forceV_eq, forceS_eq, wanted, e, COp.cls, Nat.succ_eq_add_one, this]
  exact runDraw_le (evCall_le (Nat.le_max_right n m)) _ _ _ _ _ _ k1

theorem Wd.callv {d : Nat} {x : Opd} {f : Nat} {a b : List Value} {args : List Opd} {r : List (CE × Nat)} (hx : x.evE ρ = .func (.func f) ⟨a⟩ ⟨b⟩) (h : Wf prog f (a ++ (evsE ρ args ++ b)) s (fun v s' => H (k + 1) s' ∧ Wd prog r (k + 1) H (upd ρ d v) s' Q)) : Wd prog ((⟨some d, .callv x args, none⟩, hi) :: r) k H ρ s Q := by
  intro t os ht hos
  obtain ⟨n, v, s', h1, hh, h2⟩ := h
  obtain ⟨m, t', s'', ρ', k1, k2, k3⟩ := h2 _ os (ht.set d v) hos
  refine ⟨max n m, t', s'', ρ', ?_, k2, k3⟩
  have e : stepOp (evCall prog (max n m)) t s (.callv x args) = some (v, s') := by
    simp only [stepOp, ht.evs, ht.ev, hx, app_eq]
    exact evCall_le (Nat.le_max_left n m) _ _ _ _ h1
  have := hos _ _ hh
  simp only [runDraw, stepOpF_eq, forceT_eq, forceV_eq, forceS_eq, wanted, e, COp.cls, Nat.succ_eq_add_one, this, Ev.put]
  exact runDraw_le (evCall_le (Nat.le_max_right n m)) _ _ _ _ _ _ k1

theorem wanted_on {t : T Value} (ht : Agree t ρ) {j : Nat} {w : Bool} (h : ρ j = .bool w) : wanted t (some (j, w)) = true := by
  simp only [wanted, agree_bool ht h]; cases w <;> rfl
theorem wanted_off {t : T Value} (ht : Agree t ρ) {j : Nat} {w b : Bool} (h : ρ j = .bool b) (hb : b = !w) : wanted t (some (j, w)) = false := by
  simp only [wanted, agree_bool ht h, hb]; cases w <;> rfl

theorem Wd.on {d : Option Nat} {o : COp} {j : Nat} {w : Bool} {r : List (CE × Nat)} (h : ρ j = .bool w) (K : Wd prog ((⟨d, o, none⟩, hi) :: r) k H ρ s Q) : Wd prog ((⟨d, o, some (j, w)⟩, hi) :: r) k H ρ s Q := by
  intro t os ht hos
  obtain ⟨n, t', s'', ρ', h1, h2, h3⟩ := K t os ht hos
  refine ⟨n, t', s'', ρ', ?_, h2, h3⟩
  simp only [runDraw, wanted] at h1
  simp only [runDraw, wanted_on ht h]
  exact h1

/-- Left out: nothing that counts as an effect. -/
theorem Wd.off {d : Nat} {o : COp} {j : Nat} {w b : Bool} {r : List (CE × Nat)} (h : ρ j = .bool b) (hb : b = !w) (hc : (match o.cls with | .eff => true | _ => false) = false) (K : Wd prog r k H (upd ρ d undefV) s Q) : Wd prog ((⟨some d, o, some (j, w)⟩, hi) :: r) k H ρ s Q := by
  intro t os ht hos
  obtain ⟨n, t', s'', ρ', h1, h2, h3⟩ := K _ os (ht.set d undefV) hos
  refine ⟨n, t', s'', ρ', ?_, h2, h3⟩
  simp only [runDraw, wanted_off ht h hb, forceT_eq]
  split
  · rename_i he; rw [he] at hc; cases hc
  · exact h1

/-- Left out: an effect. -/
theorem Wd.offE {d : Nat} {o : COp} {j : Nat} {w b : Bool} {r : List (CE × Nat)} (h : ρ j = .bool b) (hb : b = !w) (hc : o.cls = .eff) (K : Wd prog r (k + 1) H (upd ρ d undefV) s Q) : Wd prog ((⟨some d, o, some (j, w)⟩, hi) :: r) k H ρ s Q := by
  intro t os ht hos
  obtain ⟨n, t', s'', ρ', h1, h2, h3⟩ := K _ os (ht.set d undefV) hos
  refine ⟨n, t', s'', ρ', ?_, h2, h3⟩
  simp only [runDraw, wanted_off ht h hb, forceT_eq, hc]
  exact h1
end
end
end Go.EvW
end

section
set_option linter.unusedVariables false
namespace Go.EvW
open Go Go.Ev _root_.Ev

section
variable {prog : Nat → Option CFunc} {ρ : Env} {s s' s'' : St} {Q : Env → St → Prop}

/-! ### memory -/

def Row (s : St) (A z : Nat) (cs : List Value) : Prop := A < s.nextId ∧ ∃ e g o, s.obj A = some (.row e z cs g o) ∧ (o = none ∨ g = none)
def Own (s : St) (A z : Nat) (cs : List Value) : Prop := A < s.nextId ∧ ∃ e g, s.obj A = some (.row e z cs g none)
def MapAt (s : St) (A : Nat) (es : List (Value × Value × Nat)) : Prop := A < s.nextId ∧ ∃ c, s.obj A = some (.map es c)

theorem Own.row {A z : Nat} {cs : List Value} (h : Own s A z cs) : Row s A z cs := by
  obtain ⟨h1, e, g, h2⟩ := h
  exact ⟨h1, e, g, none, h2, .inl rfl⟩

theorem Row.cells {A z : Nat} {cs : List Value} (h : Row s A z cs) : s.cellsOf A = some cs := by
  obtain ⟨_, e, g, o, h2, h3⟩ := h
  cases s with | mk hp nx ep =>
  simp only [St.obj] at h2
  have : readable ep g o = true := by
    rcases h3 with rfl | rfl
    · rfl
    · cases o <;> rfl
  simp only [St.cellsOf, h2, this]

theorem MapAt.map {A : Nat} {es : List (Value × Value × Nat)} (h : MapAt s A es) : ∃ c, s.mapOf A = some (es, c) := by
  obtain ⟨_, c, h2⟩ := h
  cases s with | mk hp nx ep =>
  simp only [St.obj] at h2
  exact ⟨c, by simp only [St.mapOf, h2]⟩

/-- Only blocks of 'M' have changed. -/
def Chg (M : Nat → Prop) (s s' : St) : Prop := s.nextId ≤ s'.nextId ∧ ∀ B, B < s.nextId → ¬ M B → s'.obj B = s.obj B

abbrev Pur (s s' : St) : Prop := Chg (fun _ => False) s s'
abbrev Wrt (A : Nat) (s s' : St) : Prop := Chg (fun B => B = A) s s'
abbrev Ext (N : Nat) (s s' : St) : Prop := Chg (fun B => N ≤ B) s s'

theorem Chg.refl {M : Nat → Prop} (s : St) : Chg M s s := ⟨Nat.le_refl _, fun _ _ _ => rfl⟩
theorem Chg.trans {M : Nat → Prop} (h : Chg M s s') (k : Chg M s' s'') : Chg M s s'' :=
  ⟨Nat.le_trans h.1 k.1, fun B hB hM => (k.2 B (Nat.lt_of_lt_of_le hB h.1) hM).trans (h.2 B hB hM)⟩
theorem Chg.mono {M M' : Nat → Prop} (h : Chg M s s') (hm : ∀ B, B < s.nextId → M B → M' B) : Chg M' s s' := ⟨h.1, fun B hB hM => h.2 B hB fun hb => hM (hm B hB hb)⟩
theorem Chg.step {M M' : Nat → Prop} (h : Chg M s s') (k : Chg M' s' s'') (hm : ∀ B, B < s.nextId → M' B → M B) : Chg M s s'' :=
  ⟨Nat.le_trans h.1 k.1, fun B hB hM => (k.2 B (Nat.lt_of_lt_of_le hB h.1) fun hb => hM (hm B hB hb)).trans (h.2 B hB hM)⟩
theorem Chg.pur {M : Nat → Prop} (h : Pur s s') : Chg M s s' := h.mono fun _ _ hf => hf.elim
theorem Chg.thenP {M : Nat → Prop} (h : Chg M s s') (k : Pur s' s'') : Chg M s s'' := h.step k fun _ _ hf => hf.elim
/-- A block of our own may change. -/
theorem Ext.wrt {N A : Nat} (h : Ext N s s') (k : Wrt A s' s'') (hA : N ≤ A) : Ext N s s'' := h.step k fun B _ e => by subst e; exact hA
theorem Ext.toPur (h : Ext s.nextId s s') : Pur s s' := ⟨h.1, fun B hB _ => h.2 B hB (Nat.not_le_of_lt hB)⟩
theorem Pur.ext {N : Nat} (h : Pur s s') : Ext N s s' := Chg.pur h

theorem Own.chg {M : Nat → Prop} {A z : Nat} {cs : List Value} (h : Own s A z cs) (k : Chg M s s') (hA : ¬ M A) : Own s' A z cs := by
  obtain ⟨h1, e, g, h2⟩ := h
  exact ⟨Nat.lt_of_lt_of_le h1 k.1, e, g, by rw [k.2 A h1 hA]; exact h2⟩
theorem Row.chg {M : Nat → Prop} {A z : Nat} {cs : List Value} (h : Row s A z cs) (k : Chg M s s') (hA : ¬ M A) : Row s' A z cs := by
  obtain ⟨h1, e, g, o, h2, h3⟩ := h
  exact ⟨Nat.lt_of_lt_of_le h1 k.1, e, g, o, by rw [k.2 A h1 hA]; exact h2, h3⟩
theorem MapAt.chg {M : Nat → Prop} {A : Nat} {es : List (Value × Value × Nat)} (h : MapAt s A es) (k : Chg M s s') (hA : ¬ M A) : MapAt s' A es := by
  obtain ⟨h1, c, h2⟩ := h
  exact ⟨Nat.lt_of_lt_of_le h1 k.1, c, by rw [k.2 A h1 hA]; exact h2⟩
theorem Own.pur {A z : Nat} {cs : List Value} (h : Own s A z cs) (k : Pur s s') : Own s' A z cs := h.chg k (fun h => h)
theorem Row.pur {A z : Nat} {cs : List Value} (h : Row s A z cs) (k : Pur s s') : Row s' A z cs := h.chg k (fun h => h)
theorem MapAt.pur {A : Nat} {es : List (Value × Value × Nat)} (h : MapAt s A es) (k : Pur s s') : MapAt s' A es := h.chg k (fun h => h)

/-- A slice: its items' cells. -/
def Sl (s : St) (P : Nat → Prop) (z : Nat) (v : Value) (n : Nat) (cells : List Value) : Prop :=
  ∃ b c, v = .slice b n c ∧ n ≤ c ∧ cells.length = n * z ∧ ((b = none ∧ n = 0 ∧ c = 0) ∨ ∃ A o cs, b = some ⟨A, o, none⟩ ∧ P A ∧ Row s A z cs ∧ o + n * z ≤ cs.length ∧ (cs.drop o).take (n * z) = cells)

theorem Sl.chg {M P : Nat → Prop} {z n : Nat} {v : Value} {cells : List Value} (h : Sl s P z v n cells) (k : Chg M s s') (hP : ∀ A, P A → ¬ M A) : Sl s' P z v n cells := by
  obtain ⟨b, c, h1, h2, h3, h4⟩ := h
  refine ⟨b, c, h1, h2, h3, ?_⟩
  rcases h4 with h4 | ⟨A, o, cs, rfl, h5, h6, h7, h8⟩
  · exact .inl h4
  · exact .inr ⟨A, o, cs, rfl, h5, h6.chg k (hP A h5), h7, h8⟩

theorem Sl.pur {P : Nat → Prop} {z n : Nat} {v : Value} {cells : List Value} (h : Sl s P z v n cells) (k : Pur s s') : Sl s' P z v n cells := h.chg k fun _ _ h => h
theorem Sl.mono {P P' : Nat → Prop} {z n : Nat} {v : Value} {cells : List Value} (h : Sl s P z v n cells) (hP : ∀ A, A < s.nextId → P A → P' A) : Sl s P' z v n cells := by
  obtain ⟨b, c, h1, h2, h3, h4⟩ := h
  refine ⟨b, c, h1, h2, h3, ?_⟩
  rcases h4 with h4 | ⟨A, o, cs, rfl, h5, h6, h7, h8⟩
  · exact .inl h4
  · exact .inr ⟨A, o, cs, rfl, hP A h6.1 h5, h6, h7, h8⟩

theorem Sl.len {P : Nat → Prop} {z n : Nat} {v : Value} {cells : List Value} (h : Sl s P z v n cells) : cells.length = n * z := by
  obtain ⟨b, c, h1, h2, h3, h4⟩ := h; exact h3

theorem Sl.nil {P : Nat → Prop} {z : Nat} : Sl s P z (.slice none 0 0) 0 [] := ⟨none, 0, rfl, Nat.le_refl _, by simp, .inl ⟨rfl, rfl, rfl⟩⟩

theorem Sl.of_own {P : Nat → Prop} {A z n : Nat} {cs : List Value} (h : Own s A z cs) (hP : P A) (hn : cs.length = n * z) : Sl s P z (.slice (some ⟨A, 0, none⟩) n n) n cs :=
  ⟨_, n, rfl, Nat.le_refl _, hn, .inr ⟨A, 0, cs, rfl, hP, h.row, by omega, by simp [← hn]⟩⟩

/-! ### numbers -/

theorem wrap_i64 {n : Int} (h : -9223372036854775808 ≤ n ∧ n < 9223372036854775808) : IntKind.i64.wrap n = n := by
  simp only [IntKind.wrap, IntKind.bits, IntKind.signed]; simp; omega
theorem wrap_u8 (n : Int) : IntKind.u8.wrap n = n % 256 := by
  simp only [IntKind.wrap, IntKind.bits, IntKind.signed]; simp
theorem wrap_u64 (n : Int) : IntKind.u64.wrap n = n % 18446744073709551616 := by
  simp only [IntKind.wrap, IntKind.bits, IntKind.signed]; simp

theorem ev_c (v : Value) : (Opd.c v).evE ρ = v := rfl

/-! ### operations that only compute -/

theorem Step.move {x : Opd} {v : Value} (h : x.evE ρ = v) : Step ρ s (.move x) v s := by
  intro t ht; simp only [doOp, ht.ev, h]
theorem Step.pickT {c a b : Opd} {v : Value} (hc : c.evE ρ = .bool true) (h : a.evE ρ = v) : Step ρ s (.pick c a b) v s := by
  intro t ht; simp only [doOp, ht.ev, hc, h]
theorem Step.pickF {c a b : Opd} {v : Value} (hc : c.evE ρ = .bool false) (h : b.evE ρ = v) : Step ρ s (.pick c a b) v s := by
  intro t ht; simp only [doOp, ht.ev, hc, h]

section
variable {x y : Opd} {a b : Int} {k : IntKind}
theorem Step.int {op : BinOp} {v : Value} (hx : x.evE ρ = .int k a) (hy : y.evE ρ = .int k b) (hs : op ≠ .shl ∧ op ≠ .shr) (h : binInt op k a b = some v) : Step ρ s (.bin op x y) v s := by
  intro t ht
  simp only [doOp, ht.ev, hx, hy]
  have : binF op (.int k a) (.int k b) = some v := by
    unfold binF
    cases op <;> simp_all
  simp only [this]

theorem Step.add (hx : x.evE ρ = .int .i64 a) (hy : y.evE ρ = .int .i64 b) (h : -9223372036854775808 ≤ a + b ∧ a + b < 9223372036854775808) : Step ρ s (.bin .add x y) (.int .i64 (a + b)) s :=
  Step.int hx hy (by simp) (by simp only [binInt, mkInt_eq, wrap_i64 h])
theorem Step.sub (hx : x.evE ρ = .int .i64 a) (hy : y.evE ρ = .int .i64 b) (h : -9223372036854775808 ≤ a - b ∧ a - b < 9223372036854775808) : Step ρ s (.bin .sub x y) (.int .i64 (a - b)) s :=
  Step.int hx hy (by simp) (by simp only [binInt, mkInt_eq, wrap_i64 h])
theorem Step.mul (hx : x.evE ρ = .int .i64 a) (hy : y.evE ρ = .int .i64 b) (h : -9223372036854775808 ≤ a * b ∧ a * b < 9223372036854775808) : Step ρ s (.bin .mul x y) (.int .i64 (a * b)) s :=
  Step.int hx hy (by simp) (by simp only [binInt, mkInt_eq, wrap_i64 h])
theorem Step.addw (hx : x.evE ρ = .int k a) (hy : y.evE ρ = .int k b) : Step ρ s (.bin .add x y) (.int k (k.wrap (a + b))) s :=
  Step.int hx hy (by simp) (by simp only [binInt, mkInt_eq])
theorem Step.subw (hx : x.evE ρ = .int k a) (hy : y.evE ρ = .int k b) : Step ρ s (.bin .sub x y) (.int k (k.wrap (a - b))) s :=
  Step.int hx hy (by simp) (by simp only [binInt, mkInt_eq])
theorem Step.mulw (hx : x.evE ρ = .int k a) (hy : y.evE ρ = .int k b) : Step ρ s (.bin .mul x y) (.int k (k.wrap (a * b))) s :=
  Step.int hx hy (by simp) (by simp only [binInt, mkInt_eq])
theorem beqF_zero (h : b ≠ 0) : Int.beqF b 0 = false := by rw [beqF_eq]; simp [h]
theorem Step.quo (hx : x.evE ρ = .int .i64 a) (hy : y.evE ρ = .int .i64 b) (h : 0 ≤ a ∧ 0 < b ∧ a < 9223372036854775808) : Step ρ s (.bin .quo x y) (.int .i64 (a / b)) s := by
  refine Step.int hx hy (by simp) ?_
  have hb : b ≠ 0 := by omega
  have h1 : a / b ≤ a := Int.ediv_le_self b h.1
  have h2 : 0 ≤ a / b := Int.ediv_nonneg h.1 (by omega)
  simp only [binInt, beqF_zero hb, mkInt_eq, Int.tdiv_eq_ediv_of_nonneg h.1, wrap_i64 (show -9223372036854775808 ≤ a / b ∧ a / b < 9223372036854775808 by omega)]
theorem Step.quow (hx : x.evE ρ = .int k a) (hy : y.evE ρ = .int k b) (h : b ≠ 0) : Step ρ s (.bin .quo x y) (.int k (k.wrap (a.tdiv b))) s :=
  Step.int hx hy (by simp) (by simp only [binInt, beqF_zero h, mkInt_eq])
theorem Step.remw (hx : x.evE ρ = .int k a) (hy : y.evE ρ = .int k b) (h : b ≠ 0) : Step ρ s (.bin .rem x y) (.int k (a.tmod b)) s := by
  refine Step.int hx hy (by simp) ?_
  simp only [binInt, beqF_zero h]
  cases a.tmod b <;> rfl
theorem Step.rem (hx : x.evE ρ = .int k a) (hy : y.evE ρ = .int k b) (h : 0 ≤ a ∧ b ≠ 0) : Step ρ s (.bin .rem x y) (.int k (a % b)) s := by
  have := Step.remw (s := s) hx hy h.2
  rwa [Int.tmod_eq_emod_of_nonneg h.1] at this
theorem Step.eql (hx : x.evE ρ = .int k a) (hy : y.evE ρ = .int k b) : Step ρ s (.bin .eql x y) (.bool (decide (a = b))) s :=
  Step.int hx hy (by simp) (by simp only [binInt, beqF_eq])
theorem Step.neq (hx : x.evE ρ = .int k a) (hy : y.evE ρ = .int k b) : Step ρ s (.bin .neq x y) (.bool (decide (a ≠ b))) s :=
  Step.int hx hy (by simp) (by simp only [binInt, beqF_eq, boolXor_eq]; by_cases h : a = b <;> simp [h])
theorem Step.lss (hx : x.evE ρ = .int k a) (hy : y.evE ρ = .int k b) : Step ρ s (.bin .lss x y) (.bool (decide (a < b))) s :=
  Step.int hx hy (by simp) (by simp only [binInt, ltF_eq])
theorem Step.gtr (hx : x.evE ρ = .int k a) (hy : y.evE ρ = .int k b) : Step ρ s (.bin .gtr x y) (.bool (decide (b < a))) s :=
  Step.int hx hy (by simp) (by simp only [binInt, ltF_eq])
theorem Step.leq (hx : x.evE ρ = .int k a) (hy : y.evE ρ = .int k b) : Step ρ s (.bin .leq x y) (.bool (decide (a ≤ b))) s :=
  Step.int hx hy (by simp) (by simp only [binInt, ltF_eq, boolXor_eq]; by_cases h : b < a <;> simp [h] <;> omega)
theorem Step.geq (hx : x.evE ρ = .int k a) (hy : y.evE ρ = .int k b) : Step ρ s (.bin .geq x y) (.bool (decide (b ≤ a))) s :=
  Step.int hx hy (by simp) (by simp only [binInt, ltF_eq, boolXor_eq]; by_cases h : a < b <;> simp [h] <;> omega)
theorem Step.conv64 {k : IntKind} (hx : x.evE ρ = .int k a) (h : -9223372036854775808 ≤ a ∧ a < 9223372036854775808) : Step ρ s (.conv .i64 x) (.int .i64 a) s := by
  intro t ht; simp only [doOp, ht.ev, hx, mkInt_eq, wrap_i64 h]
theorem Step.conv {k k' : IntKind} (hx : x.evE ρ = .int k a) : Step ρ s (.conv k' x) (.int k' (k'.wrap a)) s := by
  intro t ht; simp only [doOp, ht.ev, hx, mkInt_eq]
theorem Step.convTo {k k' : IntKind} {b : Int} (hx : x.evE ρ = .int k a) (h : k'.wrap a = b) : Step ρ s (.conv k' x) (.int k' b) s := by
  have := Step.conv (s := s) (k' := k') hx
  rwa [h] at this
theorem Step.min (hx : x.evE ρ = .int k a) (hy : y.evE ρ = .int k b) : Step ρ s (.most true x y) (.int k (Min.min a b)) s := by
  intro t ht
  simp only [doOp, ht.ev, hx, hy, decide_true, ltF_eq]
  by_cases h : b < a
  · simp only [h, decide_true, Int.min_def]; rw [if_neg (by omega)]
  · simp only [h, decide_false, Int.min_def]; rw [if_pos (by omega)]
theorem Step.max (hx : x.evE ρ = .int k a) (hy : y.evE ρ = .int k b) : Step ρ s (.most false x y) (.int k (Max.max a b)) s := by
  intro t ht
  simp only [doOp, ht.ev, hx, hy, decide_true, ltF_eq]
  by_cases h : a < b
  · simp only [h, decide_true, Int.max_def]; rw [if_pos (by omega)]
  · simp only [h, decide_false, Int.max_def]
    by_cases h' : a = b
    · subst h'; simp
    · rw [if_neg (by omega)]
end

section
variable {x y : Opd} {a b : Bool}
theorem Step.not (hx : x.evE ρ = .bool a) : Step ρ s (.not x) (.bool (!a)) s := by
  intro t ht; simp only [doOp, ht.ev, hx, boolXor_eq]; cases a <;> rfl
theorem Step.notD {p : Prop} [Decidable p] (hx : x.evE ρ = .bool (decide p)) : Step ρ s (.not x) (.bool (decide (¬p))) s := by
  have := Step.not (s := s) hx
  rwa [← decide_not] at this
theorem Step.eqB (hx : x.evE ρ = .bool a) (hy : y.evE ρ = .bool b) : Step ρ s (.eqB false x y) (.bool (decide (a = b))) s := by
  intro t ht; simp only [doOp, ht.ev, hx, hy]; cases a <;> cases b <;> rfl
theorem Step.neB (hx : x.evE ρ = .bool a) (hy : y.evE ρ = .bool b) : Step ρ s (.eqB true x y) (.bool (decide (a ≠ b))) s := by
  intro t ht; simp only [doOp, ht.ev, hx, hy]; cases a <;> cases b <;> rfl
end

section
variable {x y : Opd}
theorem Step.lenStr {b : ByteArray} (hx : x.evE ρ = .string b) : Step ρ s (.lenStr x) (.int .i64 ((b.data.toList.length : Nat) : Int)) s := by
  intro t ht; simp only [doOp, ht.ev, hx, len_eq, Nat.add_zero]; rfl
theorem Step.lenSl {P : Nat → Prop} {z n : Nat} {v : Value} {cells : List Value} (hx : x.evE ρ = v) (h : Sl s P z v n cells) : Step ρ s (.lenSl x) (.int .i64 ((n : Nat) : Int)) s := by
  obtain ⟨b, c, rfl, _⟩ := h
  intro t ht; simp only [doOp, ht.ev, hx]; rfl
theorem Step.lenS {b : Option Addr} {n c : Nat} (hx : x.evE ρ = .slice b n c) : Step ρ s (.lenSl x) (.int .i64 ((n : Nat) : Int)) s := by
  intro t ht; simp only [doOp, ht.ev, hx]; rfl
theorem Step.idxStr {b : ByteArray} {i : Int} {k : IntKind} {c : UInt8} (hx : x.evE ρ = .string b) (hy : y.evE ρ = .int k i) (h0 : 0 ≤ i) (hc : b.data.toList[i.toNat]? = some c) : Step ρ s (.idxStr x y) (.int .u8 ((c.toNat : Nat) : Int)) s := by
  intro t ht
  obtain ⟨n, rfl⟩ := Int.eq_ofNat_of_zero_le h0
  have e : intN (.int k ((n : Nat) : Int)) = some n := rfl
  simp only [Int.toNat_natCast] at hc
  simp only [doOp, ht.ev, hx, hy, e, nth_eq, hc]; rfl
theorem Step.field {off : Nat} {l : List Value} {v : Value} (hx : x.evE ρ = .agg ⟨l⟩) (h : l[off]? = some v) : Step ρ s (.field off x) v s := by
  intro t ht; simp only [doOp, ht.ev, hx, nth_eq, h]
theorem Step.fieldN {off n : Nat} {l r : List Value} (hx : x.evE ρ = .agg ⟨l⟩) (h : cut l off n = some r) : Step ρ s (.fieldN off n x) (.agg ⟨r⟩) s := by
  intro t ht; simp only [doOp, ht.ev, hx, h]
theorem Step.extract {i : Nat} {l : List Value} {v : Value} (hx : x.evE ρ = .tuple ⟨l⟩) (h : l[i]? = some v) : Step ρ s (.extract i x) v s := by
  intro t ht; simp only [doOp, ht.ev, hx, nth_eq, h]
theorem Step.faddr {off A o : Nat} (hx : x.evE ρ = ptrV A o) : Step ρ s (.faddr off x) (ptrV A (o + off)) s := by
  intro t ht; simp only [doOp, ht.ev, hx, ptrV, addrOf]
theorem Step.nilCheck {A o : Nat} (hx : x.evE ρ = ptrV A o) : Step ρ s (.nilCheck x) (ptrV A o) s := by
  intro t ht; simp only [doOp, ht.ev, hx, ptrV]
theorem Step.nilCheckF {f : Nat} {a b : Array Value} (hx : x.evE ρ = .func (.func f) a b) : Step ρ s (.nilCheck x) (.func (.func f) a b) s := by
  intro t ht; simp only [doOp, ht.ev, hx]
theorem Step.mkFunc {f : Nat} {a b : List Opd} : Step ρ s (.mkFunc f a b) (.func (.func f) ⟨evsE ρ a⟩ ⟨evsE ρ b⟩) s := by
  intro t ht; simp only [doOp, ht.evs]
theorem Step.build {cs r : List Value} {ps : List (Nat × Nat × Opd)} (h : ∀ t, Agree t ρ → fillF cs (partsV t ps) = some r) : Step ρ s (.build cs ps) (.agg ⟨r⟩) s := by
  intro t ht; simp only [doOp, h t ht]

/-! ### memory read -/

theorem Step.load {A o z : Nat} {cs : List Value} {v : Value} (hx : x.evE ρ = ptrV A o) (hr : Row s A z cs) (hv : cs[o]? = some v) : Step ρ s (.load x) v s := by
  intro t ht; simp only [doOp, ht.ev, hx, ptrV, addrOf, hr.cells, nth_eq, hv]
theorem Step.loadN {A o z n : Nat} {cs r : List Value} (hx : x.evE ρ = ptrV A o) (hr : Row s A z cs) (hv : cut cs o n = some r) : Step ρ s (.loadN n x) (.agg ⟨r⟩) s := by
  intro t ht; simp only [doOp, ht.ev, hx, ptrV, addrOf, hr.cells, hv]

theorem intN_of {k : IntKind} {i : Int} (h : 0 ≤ i) : intN (.int k i) = some i.toNat := by
  obtain ⟨n, rfl⟩ := Int.eq_ofNat_of_zero_le h
  rfl

/-- The place of an item of a slice. -/
theorem Step.iaddr {P : Nat → Prop} {z n : Nat} {v : Value} {cells : List Value} {i : Int} {k : IntKind} (hx : x.evE ρ = v) (h : Sl s P z v n cells) (hy : y.evE ρ = .int k i) (h0 : 0 ≤ i) (hi : i < n) :
    ∃ A o cs, v = .slice (some ⟨A, o, none⟩) n (match v with | .slice _ _ c => c | _ => 0) ∧ P A ∧ Row s A z cs ∧ o + n * z ≤ cs.length ∧ (cs.drop o).take (n * z) = cells ∧ Step ρ s (.iaddr z x y) (ptrV A (o + i.toNat * z)) s := by
  obtain ⟨b, c, rfl, h2, h3, h4⟩ := h
  rcases h4 with ⟨_, rfl, _⟩ | ⟨A, o, cs, rfl, h5, h6, h7, h8⟩
  · omega
  · refine ⟨A, o, cs, rfl, h5, h6, h7, h8, ?_⟩
    intro t ht
    have hb : Nat.ble (Nat.succ i.toNat) n = true := Nat.ble_eq_true_of_le (by omega)
    simp only [doOp, ht.ev, hx, hy, intN_of h0, hb]

theorem take_get {α : Type} {cs cells : List α} {o m i : Nat} {v : α} (h : (cs.drop o).take m = cells) (hv : cells[i]? = some v) : cs[o + i]? = some v := by
  subst h
  rw [List.getElem?_take] at hv
  split at hv
  · rwa [List.getElem?_drop] at hv
  · cases hv

/-- An item of one cell is read. -/
theorem Wo.idx {P : Nat → Prop} {d1 d2 n : Nat} {v w : Value} {cells : List Value} {i : Int} {k : IntKind} {r : List CE} (hx : x.evE ρ = v) (h : Sl s P 1 v n cells) (hy : y.evE ρ = .int k i) (h0 : 0 ≤ i) (hw : cells[i.toNat]? = some w)
    (K : ∀ p, Wo prog r (upd (upd ρ d1 p) d2 w) s Q) : Wo prog (⟨some d1, .iaddr 1 x y, none⟩ :: ⟨some d2, .load (.t d1), none⟩ :: r) ρ s Q := by
  have hi : i < n := by
    have := h.len
    have h2 := (List.getElem?_eq_some_iff.1 hw).1
    omega
  obtain ⟨A, o, cs, _, _, h6, h7, h8, hst⟩ := Step.iaddr hx h hy h0 hi
  refine Wo.op hst (Wo.op (Step.load (A := A) (o := o + i.toNat * 1) (cs := cs) ?_ h6 ?_) (K _))
  · simp [Opd.evE, upd]
  · rw [Nat.mul_one]; exact take_get h8 hw

theorem Wd.idx {P : Nat → Prop} {d1 d2 n hi1 hi2 kk : Nat} {H : Nat → St → Prop} {v w : Value} {cells : List Value} {i : Int} {k : IntKind} {r : List (CE × Nat)} (hx : x.evE ρ = v) (h : Sl s P 1 v n cells) (hy : y.evE ρ = .int k i) (h0 : 0 ≤ i) (hw : cells[i.toNat]? = some w)
    (hv : veq w w = true)
    (K : ∀ p, Wd prog r kk (fun k' s' => (k' ≤ hi2 → Sl s' P 1 v n cells) ∧ H k' s') (upd (upd ρ d1 p) d2 w) s Q) : Wd prog ((⟨some d1, .iaddr 1 x y, none⟩, hi1) :: (⟨some d2, .load (.t d1), none⟩, hi2) :: r) kk H ρ s Q := by
  have hi : i < n := by
    have := h.len
    have h2 := (List.getElem?_eq_some_iff.1 hw).1
    omega
  obtain ⟨A, o, cs, e, _, h6, h7, h8, hst⟩ := Step.iaddr hx h hy h0 hi
  refine Wd.pure rfl hst (Wd.read rfl (Step.load (A := A) (o := o + i.toNat * 1) (cs := cs) ?_ h6 ?_) (Wd.weaken ?_ (K _)))
  · simp [Opd.evE, upd]
  · rw [Nat.mul_one]; exact take_get h8 hw
  · intro k' s' hh
    refine ⟨fun hk => ?_, hh.2⟩
    have hs := hh.1 hk
    rw [e] at hs
    obtain ⟨b, c, e', _, _, h4⟩ := hs
    simp only [Value.slice.injEq] at e'
    obtain ⟨rfl, _, rfl⟩ := e'
    rcases h4 with ⟨hb, _⟩ | ⟨A', o', cs', hb, _, g6, g7, g8⟩
    · cases hb
    · simp only [Option.some.injEq, Addr.mk.injEq] at hb
      obtain ⟨rfl, rfl, _⟩ := hb
      exact ⟨w, s', Step.load (A := A) (o := o + i.toNat * 1) (cs := cs') (by simp [Opd.evE, upd]) g6 (by rw [Nat.mul_one]; exact take_get g8 hw), hv⟩
end

/-! ### memory made and changed -/

theorem new_chg {o : AObj} : Pur s (s.new o).2 := by
  refine ⟨by rw [next_new]; omega, fun B hB _ => ?_⟩
  rw [obj_new, if_neg (by omega)]

theorem own_new {e z : TypeId} {cs : List Value} {g : Option Nat} : Own (s.new (.row e z cs g none)).2 s.nextId z cs :=
  ⟨by rw [next_new]; omega, e, g, by rw [obj_new, if_pos rfl]⟩

theorem Wo.box {d : Nat} {e : TypeId} {x : Opd} {r : List CE} {cs : List Value} (hx : cellsOfV (x.evE ρ) = cs) (K : ∀ s', Pur s s' → Own s' s.nextId 0 cs → s'.nextId = s.nextId + 1 → Wo prog r (upd ρ d (ptrV s.nextId 0)) s' Q) :
    Wo prog (⟨some d, .box e x, none⟩ :: r) ρ s Q := by
  refine Wo.op (s' := (s.new (.row e 0 cs none none)).2) (fun t ht => ?_) (K _ new_chg own_new (next_new _ _))
  simp only [doOp, ht.ev, hx]
  rw [show s.new (.row e 0 cs none none) = ((s.new (.row e 0 cs none none)).1, (s.new (.row e 0 cs none none)).2) from rfl, id_new]

theorem Wo.alloc {d : Nat} {e : TypeId} {r : List CE} {cs : List Value} (K : ∀ s', Pur s s' → Own s' s.nextId 0 cs → s'.nextId = s.nextId + 1 → Wo prog r (upd ρ d (ptrV s.nextId 0)) s' Q) :
    Wo prog (⟨some d, .alloc e cs, none⟩ :: r) ρ s Q := by
  refine Wo.op (s' := (s.new (.row e 0 cs none none)).2) (fun t ht => ?_) (K _ new_chg own_new (next_new _ _))
  simp only [doOp]
  rw [show s.new (.row e 0 cs none none) = ((s.new (.row e 0 cs none none)).1, (s.new (.row e 0 cs none none)).2) from rfl, id_new]

theorem write_row {A o z : Nat} {cs cs' vs : List Value} (h : Own s A z cs) (hs : spl cs o vs = some cs') : ∃ s', s.write A o vs = some s' ∧ Wrt A s s' ∧ Own s' A z cs' ∧ s'.nextId = s.nextId := by
  obtain ⟨h1, e, g, h2⟩ := h
  cases s with | mk hp nx ep =>
  simp only [St.obj] at h2
  cases g with
  | none =>
    refine ⟨.mk (hp.set A (.row e z cs' none none)) nx ep, by simp only [St.write, h2, hs], ⟨Nat.le_refl _, fun B _ hB => ?_⟩, ⟨h1, e, none, ?_⟩, rfl⟩
    · simp only [St.obj, T.get_set, if_neg hB]
    · simp only [St.obj, T.get_set, if_true]
  | some g =>
    refine ⟨.mk (hp.set A (.row e z cs' (some g) none)) nx (ep.set g (Nat.succ (epAt ep g))), by simp only [St.write, h2, hs], ⟨Nat.le_refl _, fun B _ hB => ?_⟩, ⟨h1, e, some g, ?_⟩, rfl⟩
    · simp only [St.obj, T.get_set, if_neg hB]
    · simp only [St.obj, T.get_set, if_true]

theorem Step.store {n A o z : Nat} {a x : Opd} {cs cs' vs : List Value} (ha : a.evE ρ = ptrV A o) (hx : cellsOfV (x.evE ρ) = vs) (hn : vs.length = n) (h1 : ones vs = true) (ho : Own s A z cs) (hs : spl cs o vs = some cs') :
    ∃ s', Step ρ s (.store n a x) undefV s' ∧ Wrt A s s' ∧ Own s' A z cs' ∧ s'.nextId = s.nextId := by
  obtain ⟨s', e, h2, h3, h4⟩ := write_row ho hs
  refine ⟨s', fun t ht => ?_, h2, h3, h4⟩
  have hb : Nat.beq (len vs 0) n = true := by rw [len_eq, hn, Nat.add_zero]; exact Nat.beq_refl n
  simp only [doOp, ht.ev, ha, hx, ptrV, addrOf, hb, h1, e]

theorem Wo.store {n A o z : Nat} {a x : Opd} {cs cs' vs : List Value} {r : List CE} (ha : a.evE ρ = ptrV A o) (hx : cellsOfV (x.evE ρ) = vs) (hn : vs.length = n) (h1 : ones vs = true) (ho : Own s A z cs) (hs : spl cs o vs = some cs')
    (K : ∀ s', Wrt A s s' → Own s' A z cs' → s'.nextId = s.nextId → Wo prog r ρ s' Q) : Wo prog (⟨none, .store n a x, none⟩ :: r) ρ s Q := by
  obtain ⟨s', e, h2, h3, h4⟩ := Step.store ha hx hn h1 ho hs
  exact Wo.op0 e (K s' h2 h3 h4)

end
end Go.EvW
end

section
set_option linter.unusedVariables false
namespace Go.EvW
open Go Go.Ev _root_.Ev

section
variable {prog : Nat → Option CFunc} {ρ : Env} {s s' s'' : St} {Q : Env → St → Prop} {P : Nat → Prop}

theorem veq_int (k : IntKind) (n : Int) : veq (.int k n) (.int k n) = true := by
  simp [Ev.veq, veq1, beqF_eq]
theorem veq_bool (b : Bool) : veq (.bool b) (.bool b) = true := by cases b <;> rfl
theorem beqBytes_refl : ∀ l : List UInt8, beqBytes l l = true
  | [] => rfl
  | a :: l => by simp only [beqBytes, Nat.beq_refl, beqBytes_refl l]
theorem veq_str (b : ByteArray) : veq (.string b) (.string b) = true := beqBytes_refl _
theorem veq_nil (n c : Nat) : veq (.slice none n c) (.slice none n c) = true := by
  simp only [Ev.veq, veq1, Nat.beq_refl]
theorem veq_slice (A o n c : Nat) : veq (.slice (some ⟨A, o, none⟩) n c) (.slice (some ⟨A, o, none⟩) n c) = true := by
  simp only [Ev.veq, veq1, Nat.beq_refl]
theorem veq_ptr (A o : Nat) : veq (ptrV A o) (ptrV A o) = true := by
  simp only [ptrV, Ev.veq, veq1, Nat.beq_refl]
theorem veq_map (A : Nat) : veq (.map (some A)) (.map (some A)) = true := by
  simp only [Ev.veq, veq1, Nat.beq_refl]
theorem Sl.veq {z n : Nat} {v : Value} {cells : List Value} (h : Sl s P z v n cells) : veq v v = true := by
  obtain ⟨b, c, rfl, _, _, h⟩ := h
  rcases h with ⟨rfl, _⟩ | ⟨A, o, cs, rfl, _⟩
  · exact veq_nil _ _
  · exact veq_slice _ _ _ _

/-- A read again. -/
theorem reread {x : Opd} {A o z : Nat} {cs : List Value} {v : Value} (hx : x.evE ρ = ptrV A o) (hr : Row s A z cs) (hv : cs[o]? = some v) (hq : veq v v = true) : ∃ v' s'', Step ρ s (.load x) v' s'' ∧ veq v v' = true :=
  ⟨v, s, Step.load hx hr hv, hq⟩

/-! ### rows of one-cell items -/

abbrev enI (xs : List Int) : List Value := xs.map fun n => .int .i64 n
abbrev enB (xs : List Bool) : List Value := xs.map fun b => .bool b
abbrev enU (xs : List UInt8) : List Value := xs.map fun b => .int .u8 ((b.toNat : Nat) : Int)
abbrev enS (xs : List (List UInt8)) : List Value := xs.map fun b => .string ⟨⟨b⟩⟩

abbrev IsInts (s : St) (P : Nat → Prop) (v : Value) (xs : List Int) : Prop := Sl s P 1 v xs.length (enI xs)
abbrev IsBools (s : St) (P : Nat → Prop) (v : Value) (xs : List Bool) : Prop := Sl s P 1 v xs.length (enB xs)
abbrev IsBytes (s : St) (P : Nat → Prop) (v : Value) (xs : List UInt8) : Prop := Sl s P 1 v xs.length (enU xs)
abbrev IsStrs (s : St) (P : Nat → Prop) (v : Value) (xs : List (List UInt8)) : Prop := Sl s P 1 v xs.length (enS xs)

def geti (xs : List Int) (i : Int) : Int := xs.getD i.toNat 0
def getb (xs : List Bool) (i : Int) : Bool := xs.getD i.toNat false
def getu (xs : List UInt8) (i : Int) : UInt8 := xs.getD i.toNat 0
def gets (xs : List (List UInt8)) (i : Int) : List UInt8 := xs.getD i.toNat []

theorem get_map {α : Type} (f : α → Value) (d : α) {xs : List α} {i : Int} (h0 : 0 ≤ i) (hi : i < xs.length) : (xs.map f)[i.toNat]? = some (f (xs.getD i.toNat d)) := by
  have : i.toNat < xs.length := by omega
  simp [this]

section
variable {x y : Opd} {d1 d2 : Nat} {v : Value} {i : Int} {k : IntKind} {r : List CE}

theorem Wo.idxI {xs : List Int} (hx : x.evE ρ = v) (h : IsInts s P v xs) (hy : y.evE ρ = .int k i) (h0 : 0 ≤ i) (hi : i < xs.length) (K : ∀ p, Wo prog r (upd (upd ρ d1 p) d2 (.int .i64 (geti xs i))) s Q) :
    Wo prog (⟨some d1, .iaddr 1 x y, none⟩ :: ⟨some d2, .load (.t d1), none⟩ :: r) ρ s Q := Wo.idx hx h hy h0 (get_map _ 0 h0 hi) K
theorem Wo.idxB {xs : List Bool} (hx : x.evE ρ = v) (h : IsBools s P v xs) (hy : y.evE ρ = .int k i) (h0 : 0 ≤ i) (hi : i < xs.length) (K : ∀ p, Wo prog r (upd (upd ρ d1 p) d2 (.bool (getb xs i))) s Q) :
    Wo prog (⟨some d1, .iaddr 1 x y, none⟩ :: ⟨some d2, .load (.t d1), none⟩ :: r) ρ s Q := Wo.idx hx h hy h0 (get_map _ false h0 hi) K
theorem Wo.idxU {xs : List UInt8} (hx : x.evE ρ = v) (h : IsBytes s P v xs) (hy : y.evE ρ = .int k i) (h0 : 0 ≤ i) (hi : i < xs.length) (K : ∀ p, Wo prog r (upd (upd ρ d1 p) d2 (.int .u8 (((getu xs i).toNat : Nat) : Int))) s Q) :
    Wo prog (⟨some d1, .iaddr 1 x y, none⟩ :: ⟨some d2, .load (.t d1), none⟩ :: r) ρ s Q := Wo.idx hx h hy h0 (get_map _ 0 h0 hi) K
theorem Wo.idxS {xs : List (List UInt8)} (hx : x.evE ρ = v) (h : IsStrs s P v xs) (hy : y.evE ρ = .int k i) (h0 : 0 ≤ i) (hi : i < xs.length) (K : ∀ p, Wo prog r (upd (upd ρ d1 p) d2 (.string ⟨⟨gets xs i⟩⟩)) s Q) :
    Wo prog (⟨some d1, .iaddr 1 x y, none⟩ :: ⟨some d2, .load (.t d1), none⟩ :: r) ρ s Q := Wo.idx hx h hy h0 (get_map _ [] h0 hi) K

/-- The same under a guard that holds. -/
theorem Wo.on2 {j : Nat} {w : Bool} {o1 o2 : COp} (h : ρ j = .bool w) (hj : j ≠ d1) (K : Wo prog (⟨some d1, o1, none⟩ :: ⟨some d2, o2, none⟩ :: r) ρ s Q) : Wo prog (⟨some d1, o1, some (j, w)⟩ :: ⟨some d2, o2, some (j, w)⟩ :: r) ρ s Q := by
  intro t ht
  obtain ⟨n, t', s', ρ', h1, h2, h3⟩ := K t ht
  refine ⟨n, t', s', ρ', ?_, h2, h3⟩
  rw [← h1]
  simp only [runOps, stepOpF_eq, forceT_eq, forceV_eq, forceS_eq, wanted_on ht h, show ∀ t : T Value, wanted t none = true from fun _ => rfl]
  cases hs : stepOp (evCall prog n) t s o1 with
  | none => rfl
  | some p =>
    simp only []
    have hg : wanted (put t (some d1) p.1) (some (j, w)) = true := by
      have := agree_bool ht h
      simp only [wanted, Ev.put, T.get_set, if_neg hj, this]
      cases w <;> rfl
    rw [hg]
end

section
variable {x y : Opd} {d1 d2 hi1 hi2 kk : Nat} {H : Nat → St → Prop} {v : Value} {i : Int} {k : IntKind} {r : List (CE × Nat)}
theorem Wd.idxI {xs : List Int} (hx : x.evE ρ = v) (h : IsInts s P v xs) (hy : y.evE ρ = .int k i) (h0 : 0 ≤ i) (hi : i < xs.length) (K : ∀ p, Wd prog r kk (fun k' s' => (k' ≤ hi2 → IsInts s' P v xs) ∧ H k' s') (upd (upd ρ d1 p) d2 (.int .i64 (geti xs i))) s Q) :
    Wd prog ((⟨some d1, .iaddr 1 x y, none⟩, hi1) :: (⟨some d2, .load (.t d1), none⟩, hi2) :: r) kk H ρ s Q := Wd.idx hx h hy h0 (get_map _ 0 h0 hi) (veq_int _ _) K
theorem Wd.idxB {xs : List Bool} (hx : x.evE ρ = v) (h : IsBools s P v xs) (hy : y.evE ρ = .int k i) (h0 : 0 ≤ i) (hi : i < xs.length) (K : ∀ p, Wd prog r kk (fun k' s' => (k' ≤ hi2 → IsBools s' P v xs) ∧ H k' s') (upd (upd ρ d1 p) d2 (.bool (getb xs i))) s Q) :
    Wd prog ((⟨some d1, .iaddr 1 x y, none⟩, hi1) :: (⟨some d2, .load (.t d1), none⟩, hi2) :: r) kk H ρ s Q := Wd.idx hx h hy h0 (get_map _ false h0 hi) (veq_bool _) K
theorem Wd.idxU {xs : List UInt8} (hx : x.evE ρ = v) (h : IsBytes s P v xs) (hy : y.evE ρ = .int k i) (h0 : 0 ≤ i) (hi : i < xs.length) (K : ∀ p, Wd prog r kk (fun k' s' => (k' ≤ hi2 → IsBytes s' P v xs) ∧ H k' s') (upd (upd ρ d1 p) d2 (.int .u8 (((getu xs i).toNat : Nat) : Int))) s Q) :
    Wd prog ((⟨some d1, .iaddr 1 x y, none⟩, hi1) :: (⟨some d2, .load (.t d1), none⟩, hi2) :: r) kk H ρ s Q := Wd.idx hx h hy h0 (get_map _ 0 h0 hi) (veq_int _ _) K
end

section
variable {x y : Opd} {w : List UInt8} {i a b : Int} {k : IntKind}
theorem Step.lenStrG (hx : x.evE ρ = .string ⟨⟨w⟩⟩) : Step ρ s (.lenStr x) (.int .i64 ((w.length : Nat) : Int)) s := Step.lenStr hx
theorem Step.idxStrG (hx : x.evE ρ = .string ⟨⟨w⟩⟩) (hy : y.evE ρ = .int k i) (h0 : 0 ≤ i) (hi : i < w.length) : Step ρ s (.idxStr x y) (.int .u8 (((getu w i).toNat : Nat) : Int)) s := by
  have h : i.toNat < w.length := by omega
  exact Step.idxStr hx hy h0 (by simp [getu, h])
theorem Step.sub8 (hx : x.evE ρ = .int .u8 a) (hy : y.evE ρ = .int .u8 b) (h : 0 ≤ a - b ∧ a - b < 256) : Step ρ s (.bin .sub x y) (.int .u8 (a - b)) s := by
  have := Step.subw (s := s) hx hy
  rwa [wrap_u8, Int.emod_eq_of_lt h.1 h.2] at this
theorem Step.add8 (hx : x.evE ρ = .int .u8 a) (hy : y.evE ρ = .int .u8 b) (h : 0 ≤ a + b ∧ a + b < 256) : Step ρ s (.bin .add x y) (.int .u8 (a + b)) s := by
  have := Step.addw (s := s) hx hy
  rwa [wrap_u8, Int.emod_eq_of_lt h.1 h.2] at this
theorem Step.conv8 {k : IntKind} (hx : x.evE ρ = .int k a) (h : 0 ≤ a ∧ a < 256) : Step ρ s (.conv .u8 x) (.int .u8 a) s := by
  have := Step.conv (s := s) (k' := .u8) hx
  rwa [wrap_u8, Int.emod_eq_of_lt h.1 h.2] at this
theorem getu_lt (w : List UInt8) (i : Int) : (((getu w i).toNat : Nat) : Int) < 256 := by have := (getu w i).toNat_lt; omega
end

/-! ### lists that grow -/

def Lst (s : St) (A z : Nat) (v : Value) (cells : List Value) : Prop :=
  (v = .slice none 0 0 ∧ cells = []) ∨ ∃ n, v = .slice (some ⟨A, 0, none⟩) n n ∧ cells.length = n * z ∧ Own s A z cells ∧ cells ≠ []

theorem Lst.nil {A z : Nat} : Lst s A z (.slice none 0 0) [] := .inl ⟨rfl, rfl⟩
theorem Lst.chg {M : Nat → Prop} {A z : Nat} {v : Value} {cells : List Value} (h : Lst s A z v cells) (k : Chg M s s') (hA : cells ≠ [] → ¬ M A) : Lst s' A z v cells := by
  rcases h with h | ⟨n, h1, h2, h3, h4⟩
  · exact .inl h
  · exact .inr ⟨n, h1, h2, h3.chg k (hA h4), h4⟩
theorem Lst.pur {A z : Nat} {v : Value} {cells : List Value} (h : Lst s A z v cells) (k : Pur s s') : Lst s' A z v cells := h.chg k (fun _ h => h)
theorem Lst.lt {A z : Nat} {v : Value} {cells : List Value} (h : Lst s A z v cells) (hc : cells ≠ []) : A < s.nextId := by
  rcases h with ⟨_, h⟩ | ⟨n, h1, h2, h3, h4⟩
  · exact absurd h hc
  · exact h3.1
theorem Lst.cell {A z : Nat} {v : Value} {cells : List Value} (h : Lst s A z v cells) : cellsOfV v = [v] := by
  rcases h with ⟨rfl, _⟩ | ⟨n, rfl, _⟩ <;> rfl
theorem Lst.one {A z : Nat} {v : Value} {cells : List Value} (h : Lst s A z v cells) : ones [v] = true := by
  rcases h with ⟨rfl, _⟩ | ⟨n, rfl, _⟩ <;> rfl
theorem Sl.cell {z n : Nat} {v : Value} {cells : List Value} (h : Sl s P z v n cells) : cellsOfV v = [v] := by
  obtain ⟨b, c, rfl, _⟩ := h; rfl
theorem Sl.one {z n : Nat} {v : Value} {cells : List Value} (h : Sl s P z v n cells) : ones [v] = true := by
  obtain ⟨b, c, rfl, _⟩ := h; rfl
theorem Lst.sl {A z n : Nat} {v : Value} {cells : List Value} (h : Lst s A z v cells) (hz : 0 < z) (hn : cells.length = n * z) (hP : cells ≠ [] → P A) : Sl s P z v n cells := by
  rcases h with ⟨rfl, rfl⟩ | ⟨m, rfl, h2, h3, h4⟩
  · have hn' : n * z = 0 := by simpa using hn.symm
    have : n = 0 := by rcases Nat.mul_eq_zero.1 hn' with h | h <;> omega
    subst this
    exact Sl.nil
  · have : m = n := Nat.eq_of_mul_eq_mul_right hz (by omega)
    subst this
    exact Sl.of_own h3 (hP h4) h2
theorem Lst.ints {A : Nat} {v : Value} {xs : List Int} (h : Lst s A 1 v (enI xs)) (hP : xs ≠ [] → P A) : IsInts s P v xs := h.sl (by omega) (by simp) (fun hc => hP (by simpa using hc))
theorem Lst.bools {A : Nat} {v : Value} {xs : List Bool} (h : Lst s A 1 v (enB xs)) (hP : xs ≠ [] → P A) : IsBools s P v xs := h.sl (by omega) (by simp) (fun hc => hP (by simpa using hc))
theorem Lst.bytes {A : Nat} {v : Value} {xs : List UInt8} (h : Lst s A 1 v (enU xs)) (hP : xs ≠ [] → P A) : IsBytes s P v xs := h.sl (by omega) (by simp) (fun hc => hP (by simpa using hc))
theorem Lst.strs {A : Nat} {v : Value} {xs : List (List UInt8)} (h : Lst s A 1 v (enS xs)) (hP : xs ≠ [] → P A) : IsStrs s P v xs := h.sl (by omega) (by simp) (fun hc => hP (by simpa using hc))
theorem Lst.veq {A z : Nat} {v : Value} {cells : List Value} (h : Lst s A z v cells) : veq v v = true := by
  rcases h with ⟨rfl, _⟩ | ⟨m, rfl, h2, h3⟩
  · exact veq_nil _ _
  · exact veq_slice _ _ _ _

theorem cut_take {α : Type} : ∀ (cs : List α) (o n : Nat), o + n ≤ cs.length → cut cs o n = some ((cs.drop o).take n)
  | [], o, n, h => by simp at h; obtain ⟨rfl, rfl⟩ := h; rfl
  | c :: cs, 0, 0, h => by simp [cut]
  | c :: cs, 0, n + 1, h => by
    have := cut_take cs 0 n (by simpa using h)
    simp only [cut, this]; simp
  | c :: cs, o + 1, n, h => by
    have := cut_take cs o n (by simp at h; omega)
    simp only [cut, this]; simp

theorem Sl.srcLen {z n : Nat} {v : Value} {cells : List Value} (h : Sl s P z v n cells) : srcLen v = some n := by
  obtain ⟨b, c, rfl, _⟩ := h; rfl
theorem Sl.srcCells {z n : Nat} {v : Value} {cells : List Value} (h : Sl s P z v n cells) : srcCells s z n v = some cells := by
  obtain ⟨b, c, rfl, h2, h3, h4⟩ := h
  rcases h4 with ⟨rfl, rfl, rfl⟩ | ⟨A, o, cs, rfl, h5, h6, h7, h8⟩
  · simp at h3; subst h3; rfl
  · simp only [Ev.srcCells, Nat.ble_self_eq_true]
    cases n with
    | zero => simp at h3; simp [h3]
    | succ n => simp only [h6.cells, cut_take _ _ _ h7, h8]
theorem Sl.sliceCells {z n : Nat} {v : Value} {cells : List Value} (h : Sl s P z v n cells) : sliceCells s z v = some cells := by
  obtain ⟨b, c, rfl, h2, h3, h4⟩ := h
  rcases h4 with ⟨rfl, rfl, rfl⟩ | ⟨A, o, cs, rfl, h5, h6, h7, h8⟩
  · simp at h3; subst h3; rfl
  · simp only [Ev.sliceCells]
    cases n with
    | zero => simp at h3; simp [h3]
    | succ n => simp only [h6.cells, cut_take _ _ _ h7, h8]

theorem heir_ok {A z e n : Nat} {cs cells : List Value} (h : Own s A z cs) (hn : n = cs.length) : ∃ s', s.heir A 0 n e z cells = some (s.nextId, s') ∧ Own s' s.nextId z cells ∧ Wrt A s s' ∧ s'.nextId = s.nextId + 1 := by
  obtain ⟨h1, e', g, h2⟩ := h
  cases s with | mk hp nx ep =>
  simp only [St.obj] at h2
  have hb : Nat.beq (0 + n) (Ev.len cs 0) = true := by rw [len_eq, hn]; simp
  refine ⟨.mk ((hp.set A (.row e' z cs (some (grpOf g A)) (some (epAt ep (grpOf g A))))).set nx (.row e z cells (some (grpOf g A)) none)) (Nat.succ nx) ep, ?_, ⟨Nat.lt_succ_self _, e, some (grpOf g A), ?_⟩, ⟨Nat.le_succ _, fun B hB hM => ?_⟩, rfl⟩
  · simp only [St.heir, h2, Nat.beq_refl, hb]; rfl
  · simp only [St.obj, St.nextId, T.get_set, if_true]
  · simp only [St.obj, T.get_set]
    simp only [St.nextId] at hB
    rw [if_neg (by omega), if_neg hM]

theorem append_ok {A z e bytes k : Nat} {v w : Value} {cells new : List Value} (hl : Lst s A z v cells) (hw : Sl s P z w k new) (hz : 0 < z) (hk : 0 < k) (h1 : ones new = true)
    (hb : 2 * (cells.length + new.length) * bytes ≤ 281474976710656 ∧ cells.length + new.length ≤ 281474976710656) :
    ∃ v' s', appendF s e z bytes v w = some (v', s') ∧ Lst s' s.nextId z v' (cells ++ new) ∧ Chg (fun B => B = A ∧ cells ≠ []) s s' ∧ s'.nextId = s.nextId + 1 := by
  have hne : cells ++ new ≠ [] := fun h => by
    have h1 := (List.append_eq_nil_iff.1 h).2
    have h2 := hw.len
    rw [h1] at h2
    have := Nat.le_mul_of_pos_right k hz
    simp at h2
    omega
  have hle : ∀ m, m * z ≤ cells.length → m + k ≤ cells.length + new.length := fun m hm => by
    have := hw.len
    have h3 : k ≤ k * z := Nat.le_mul_of_pos_right k hz
    have h4 : m ≤ m * z := Nat.le_mul_of_pos_right m hz
    omega
  have hbb : ∀ m, m * z ≤ cells.length → Nat.ble (2 * (m + k) * bytes) 281474976710656 = true ∧ Nat.ble (m + k) 281474976710656 = true := fun m hm => by
    have h3 := hle m hm
    have h4 : 2 * (m + k) * bytes ≤ 2 * (cells.length + new.length) * bytes := Nat.mul_le_mul_right _ (by omega)
    exact ⟨Nat.ble_eq_true_of_le (by omega), Nat.ble_eq_true_of_le (by omega)⟩
  rcases hl with ⟨rfl, rfl⟩ | ⟨n, rfl, h2, h3, hcn⟩
  · refine ⟨.slice (some ⟨s.nextId, 0, none⟩) (0 + k) (0 + k), (s.new (.row e z new none none)).2, ?_, .inr ⟨0 + k, rfl, by simpa using hw.len, by simpa using own_new, hne⟩, Chg.pur new_chg, next_new _ _⟩
    have hc : Nat.ble (0 + k) 0 = false := by
      cases hb : Nat.ble (0 + k) 0 with
      | false => rfl
      | true => have := Nat.le_of_ble_eq_true hb; omega
    have hbz := hbb 0 (by simp)
    simp only [appendF, hw.srcLen, hw.srcCells, hc, hbz.1, hbz.2]
    rw [show s.new (.row e z new none none) = ((s.new (.row e z new none none)).1, (s.new (.row e z new none none)).2) from rfl, id_new]
  · obtain ⟨s', e1, e2, e3, e4⟩ := heir_ok (e := e) (n := n * z) (cells := cells ++ new) h3 h2.symm
    refine ⟨.slice (some ⟨s.nextId, 0, none⟩) (n + k) (n + k), s', ?_, .inr ⟨n + k, rfl, by rw [List.length_append, h2, hw.len, Nat.add_mul], e2, hne⟩, e3.mono (fun B _ h => ⟨h, hcn⟩), e4⟩
    have hc : Nat.ble (n + k) n = false := by
      cases hb : Nat.ble (n + k) n with
      | false => rfl
      | true => have := Nat.le_of_ble_eq_true hb; omega
    have hbz := hbb n (by omega)
    have hsl : Sl s (fun _ => True) z (.slice (some ⟨A, 0, none⟩) n n) n cells := Sl.of_own h3 trivial h2
    simp only [appendF, hw.srcLen, hw.srcCells, hc, hbz.1, hbz.2, hsl.sliceCells, h1, app_eq, e1]

theorem Step.append {A z e bytes k : Nat} {x y : Opd} {v w : Value} {cells new : List Value} (hx : x.evE ρ = v) (hl : Lst s A z v cells) (hy : y.evE ρ = w) (hw : Sl s P z w k new) (hz : 0 < z) (hk : 0 < k) (h1 : ones new = true)
    (hb : 2 * (cells.length + new.length) * bytes ≤ 281474976710656 ∧ cells.length + new.length ≤ 281474976710656) :
    ∃ v' s', Step ρ s (.append e z bytes x y) v' s' ∧ Lst s' s.nextId z v' (cells ++ new) ∧ Chg (fun B => B = A ∧ cells ≠ []) s s' ∧ s'.nextId = s.nextId + 1 := by
  obtain ⟨v', s', h2, h3⟩ := append_ok (e := e) (bytes := bytes) hl hw hz hk h1 hb
  exact ⟨v', s', fun t ht => by simp only [doOp, ht.ev, hx, hy, h2], h3⟩

theorem Step.buildSlice {e z n : Nat} {cs r : List Value} {ps : List (Nat × Opd)} (h : ∀ t, Agree t ρ → fillF cs (partsS t z ps) = some r) :
    Step ρ s (.buildSlice e z n cs ps) (.slice (some ⟨s.nextId, 0, none⟩) n n) (s.new (.row e z r none none)).2 := by
  intro t ht
  simp only [doOp, h t ht]
  rw [show s.new (.row e z r none none) = ((s.new (.row e z r none none)).1, (s.new (.row e z r none none)).2) from rfl, id_new]

theorem fill1 {x : Opd} {w z0 : Value} (hx : x.evE ρ = w) (h1 : ones [w] = true) : ∀ t, Agree t ρ → fillF [z0] (partsS t 1 [(0, x)]) = some [w] := by
  intro t ht
  have hc : cellsOfV w = [w] := by cases w <;> first | rfl | simp [ones] at h1
  simp only [partsS, ht.ev, hx, fillF, hc, Ev.len, Nat.zero_mul]
  simp [Nat.beq, spl]

/-- append(l, x) for items of one cell. -/
theorem Wo.app1 {A d1 d2 e bytes : Nat} {x y : Opd} {v w z0 : Value} {cells : List Value} {r : List CE} (hx : x.evE ρ = v) (hl : Lst s A 1 v cells) (hy : y.evE ρ = w) (h1 : ones [w] = true) (hxd : ∀ n, x = .t n → n ≠ d1)
    (hb : 2 * (cells.length + 1) * bytes ≤ 281474976710656 ∧ cells.length + 1 ≤ 281474976710656)
    (K : ∀ p v' s', Lst s' (s.nextId + 1) 1 v' (cells ++ [w]) → Chg (fun B => B = A ∧ cells ≠ []) s s' → s'.nextId = s.nextId + 2 → Wo prog r (upd (upd ρ d1 p) d2 v') s' Q) :
    Wo prog (⟨some d1, .buildSlice e 1 1 [z0] [(0, y)], none⟩ :: ⟨some d2, .append e 1 bytes x (.t d1), none⟩ :: r) ρ s Q := by
  have hstep := Step.buildSlice (s := s) (e := e) (z := 1) (n := 1) (fill1 (z0 := z0) hy h1)
  refine Wo.op hstep ?_
  have hpur : Pur s (s.new (.row e 1 [w] none none)).2 := new_chg
  have hnx : (s.new (.row e 1 [w] none none)).2.nextId = s.nextId + 1 := next_new _ _
  have hown : Own (s.new (.row e 1 [w] none none)).2 s.nextId 1 [w] := own_new
  obtain ⟨v', s', g1, g2, g3, g4⟩ := Step.append (P := fun _ => True) (e := e) (bytes := bytes) (ρ := upd ρ d1 (.slice (some ⟨s.nextId, 0, none⟩) 1 1)) (x := x) (y := .t d1) (v := v)
    (by cases x with
        | c v => exact hx
        | t n =>
          have := hxd n rfl
          have hf : Nat.beq n d1 = false := by
            cases hq : Nat.beq n d1 with
            | false => rfl
            | true => exact absurd (Nat.eq_of_beq_eq_true hq) this
          simp only [Opd.evE, upd, hf]; exact hx) (hl.pur hpur) (w := .slice (some ⟨s.nextId, 0, none⟩) 1 1) (by simp [Opd.evE, upd]) (Sl.of_own hown trivial (by simp)) (by omega) (by omega) h1 (by simpa using hb)
  refine Wo.op g1 (K _ v' s' ?_ ?_ ?_)
  · rw [hnx] at g2; exact g2
  · exact (Chg.pur hpur).trans g3
  · omega

/-! ### bytes and strings -/

theorem bytesV_eq : ∀ l : List UInt8, bytesV l = enU l
  | [] => rfl
  | b :: l => by simp only [bytesV, bytesV_eq l, enU, List.map_cons]; rfl
theorem unbytes_enU : ∀ l : List UInt8, unbytes (enU l) = some l
  | [] => rfl
  | b :: l => by
    have := unbytes_enU l
    simp only [enU, List.map_cons] at this ⊢
    show (match unbytes (List.map _ l) with | some l' => some (UInt8.ofNat b.toNat :: l') | none => none) = _
    rw [this]
    simp

theorem Step.strOf {x : Opd} {v : Value} {xs : List UInt8} (hx : x.evE ρ = v) (h : IsBytes s P v xs) : Step ρ s (.strOf x) (.string ⟨⟨xs⟩⟩) s := by
  intro t ht
  simp only [doOp, ht.ev, hx, h.sliceCells, unbytes_enU]; rfl

theorem Wo.bytesOf {d e : Nat} {x : Opd} {b : ByteArray} {r : List CE} (hx : x.evE ρ = .string b)
    (K : ∀ s', Pur s s' → Own s' s.nextId 1 (enU b.data.toList) → s'.nextId = s.nextId + 1 → Wo prog r (upd ρ d (.slice (some ⟨s.nextId, 0, none⟩) b.data.toList.length b.data.toList.length)) s' Q) : Wo prog (⟨some d, .bytesOf e x, none⟩ :: r) ρ s Q := by
  refine Wo.op (s' := (s.new (.row e 1 (enU b.data.toList) none none)).2) (fun t ht => ?_) (K _ new_chg own_new (next_new _ _))
  simp only [doOp, ht.ev, hx, bytesV_eq, len_eq, Nat.add_zero]
  rw [show s.new (.row e 1 (enU b.data.toList) none none) = ((s.new (.row e 1 (enU b.data.toList) none none)).1, (s.new (.row e 1 (enU b.data.toList) none none)).2) from rfl, id_new]

/-! ### slices of slices -/

def Bnd (ρ : Env) (d : Nat) (x : Option Opd) (r : Nat) : Prop := ∀ t, Agree t ρ → hiOf d (optEv t x) = some r
theorem Bnd.none {d : Nat} : Bnd ρ d none d := fun _ _ => rfl
theorem Bnd.some {d : Nat} {x : Opd} {k : IntKind} {i : Int} (hx : x.evE ρ = .int k i) (h0 : 0 ≤ i) : Bnd ρ d (some x) i.toNat := fun t ht => by
  simp only [optEv, hiOf, ht.ev, hx, intN_of h0]

theorem Step.slice {z n l h : Nat} {x : Opd} {lo hi : Option Opd} {v : Value} {cells : List Value} (hx : x.evE ρ = v) (hs : Sl s P z v n cells) (hlo : Bnd ρ 0 lo l) (hhi : Bnd ρ n hi h) (h1 : l ≤ h) (h2 : h ≤ n) :
    ∃ v', Step ρ s (.slice z x lo hi) v' s ∧ Sl s P z v' (h - l) ((cells.drop (l * z)).take ((h - l) * z)) := by
  obtain ⟨b, c, rfl, g2, g3, g4⟩ := hs
  have hb : ∀ t, Agree t ρ → bounds n c (optEv t lo) (optEv t hi) = some (l, h) := fun t ht => by
    simp only [bounds, hhi t ht, hlo t ht, Nat.ble_eq_true_of_le (show h ≤ c by omega), Nat.ble_eq_true_of_le h1]
  rcases g4 with ⟨rfl, rfl, rfl⟩ | ⟨A, o, cs, rfl, h5, h6, h7, h8⟩
  · obtain rfl : h = 0 := by omega
    obtain rfl : l = 0 := by omega
    simp at g3; subst g3
    refine ⟨.slice none 0 0, fun t ht => ?_, by simpa using Sl.nil⟩
    simp only [doOp, ht.ev, hx, hb t ht]
  · obtain ⟨k1, e, g, od, k2, k3⟩ := h6
    have hst : s.strideIs A z = true := by
      cases s with | mk hp nx ep =>
      simp only [St.obj] at k2
      simp only [St.strideIs, k2, Nat.beq_refl]
    refine ⟨.slice (some ⟨A, o + l * z, none⟩) (h - l) (c - l), fun t ht => ?_, _, _, rfl, by omega, ?_, .inr ⟨A, o + l * z, cs, rfl, h5, ⟨k1, e, g, od, k2, k3⟩, ?_, ?_⟩⟩
    · simp only [doOp, ht.ev, hx, hb t ht, hst]
    · rw [List.length_take, List.length_drop, g3]
      have : (h - l) * z + l * z ≤ n * z := by rw [← Nat.add_mul]; exact Nat.mul_le_mul_right _ (by omega)
      omega
    · have : (h - l) * z + l * z ≤ n * z := by rw [← Nat.add_mul]; exact Nat.mul_le_mul_right _ (by omega)
      omega
    · rw [← h8, List.drop_take, List.take_take, List.drop_drop]
      have : (h - l) * z + l * z ≤ n * z := by rw [← Nat.add_mul]; exact Nat.mul_le_mul_right _ (by omega)
      rw [show Min.min ((h - l) * z) (n * z - l * z) = (h - l) * z by omega]

theorem Wo.slice {z n l h d : Nat} {x : Opd} {lo hi : Option Opd} {v : Value} {cells : List Value} {r : List CE} (hx : x.evE ρ = v) (hs : Sl s P z v n cells) (hlo : Bnd ρ 0 lo l) (hhi : Bnd ρ n hi h) (h1 : l ≤ h) (h2 : h ≤ n)
    (K : ∀ v', Sl s P z v' (h - l) ((cells.drop (l * z)).take ((h - l) * z)) → Wo prog r (upd ρ d v') s Q) : Wo prog (⟨some d, .slice z x lo hi, none⟩ :: r) ρ s Q := by
  obtain ⟨v', g1, g2⟩ := Step.slice hx hs hlo hhi h1 h2
  exact Wo.op g1 (K v' g2)

theorem Sl.cutI {xs : List Int} {l h : Nat} {v : Value} (h1 : l ≤ h) (h2 : h ≤ xs.length) (hs : Sl s P 1 v (h - l) (((enI xs).drop (l * 1)).take ((h - l) * 1))) : IsInts s P v ((xs.drop l).take (h - l)) := by
  have e : ((enI xs).drop (l * 1)).take ((h - l) * 1) = enI ((xs.drop l).take (h - l)) := by simp [enI, List.map_drop, List.map_take]
  have hl : ((xs.drop l).take (h - l)).length = h - l := by simp; omega
  rw [e] at hs
  unfold IsInts
  rw [hl]
  exact hs

/-! ### parts laid into cells -/

inductive Fill (ρ : Env) : List Value → List (Nat × Nat × Opd) → List Value → Prop
  | nil (cs : List Value) : Fill ρ cs [] cs
  | cons {cs cs' r vs : List Value} {off n : Nat} {x : Opd} {v : Value} {ps : List (Nat × Nat × Opd)} (hx : x.evE ρ = v) (hc : cellsOfV v = vs) (hn : vs.length = n) (hs : spl cs off vs = some cs') (h : Fill ρ cs' ps r) : Fill ρ cs ((off, n, x) :: ps) r

theorem Fill.ok {cs r : List Value} {ps : List (Nat × Nat × Opd)} (h : Fill ρ cs ps r) {t : T Value} (ht : Agree t ρ) : fillF cs (partsV t ps) = some r := by
  induction h with
  | nil cs => rfl
  | @cons cs cs' r vs off n x v ps hx hc hn hs _ ih =>
    have hb : Nat.beq (Ev.len (cellsOfV v) 0) n = true := by rw [hc, len_eq, hn, Nat.add_zero]; exact Nat.beq_refl _
    simp only [partsV, fillF, ht.ev, hx, hb]
    rw [hc, hs]
    exact ih
theorem Step.buildF {cs r : List Value} {ps : List (Nat × Nat × Opd)} (h : Fill ρ cs ps r) : Step ρ s (.build cs ps) (.agg ⟨r⟩) s := Step.build fun t ht => h.ok ht

def offs (z : Nat) : List (Nat × Opd) → List (Nat × Nat × Opd)
  | [] => []
  | (i, x) :: r => (i * z, z, x) :: offs z r
theorem partsS_eq (t : T Value) (z : Nat) : ∀ ps, partsS t z ps = partsV t (offs z ps)
  | [] => rfl
  | (i, x) :: r => by simp only [partsS, offs, partsV, partsS_eq t z r]

theorem Wo.buildS {d e z n : Nat} {cs cs' : List Value} {ps : List (Nat × Opd)} {r : List CE} (h : Fill ρ cs (offs z ps) cs')
    (K : ∀ s', Pur s s' → Own s' s.nextId z cs' → s'.nextId = s.nextId + 1 → Wo prog r (upd ρ d (.slice (some ⟨s.nextId, 0, none⟩) n n)) s' Q) : Wo prog (⟨some d, .buildSlice e z n cs ps, none⟩ :: r) ρ s Q :=
  Wo.op (Step.buildSlice fun t ht => by rw [partsS_eq]; exact h.ok ht) (K _ new_chg own_new (next_new _ _))

/-! ### regions that draw: stores, append -/

theorem Wd.store {n A o z kk hi : Nat} {H : Nat → St → Prop} {a x : Opd} {cs cs' vs : List Value} {r : List (CE × Nat)} (ha : a.evE ρ = ptrV A o) (hx : cellsOfV (x.evE ρ) = vs) (hn : vs.length = n) (h1 : ones vs = true) (ho : Own s A z cs) (hs : spl cs o vs = some cs')
    (K : ∀ s', Wrt A s s' → Own s' A z cs' → s'.nextId = s.nextId → H (kk + 1) s' ∧ Wd prog r (kk + 1) H ρ s' Q) : Wd prog ((⟨none, .store n a x, none⟩, hi) :: r) kk H ρ s Q := by
  obtain ⟨s', e, h2, h3, h4⟩ := Step.store ha hx hn h1 ho hs
  obtain ⟨k1, k2⟩ := K s' h2 h3 h4
  exact Wd.eff0 rfl e k1 k2

theorem Wd.app1 {A d1 d2 e bytes kk hi1 hi2 : Nat} {H : Nat → St → Prop} {x y : Opd} {v w z0 : Value} {cells : List Value} {r : List (CE × Nat)} (hx : x.evE ρ = v) (hl : Lst s A 1 v cells) (hy : y.evE ρ = w) (h1 : ones [w] = true) (hxd : ∀ n, x = .t n → n ≠ d1) (hhi : hi1 < kk + 1)
    (hb : 2 * (cells.length + 1) * bytes ≤ 281474976710656 ∧ cells.length + 1 ≤ 281474976710656)
    (hH : ∀ s', Pur s s' → H kk s')
    (K : ∀ p v' s', Lst s' (s.nextId + 1) 1 v' (cells ++ [w]) → Chg (fun B => B = A ∧ cells ≠ []) s s' → s'.nextId = s.nextId + 2 → H (kk + 1) s' ∧ Wd prog r (kk + 1) (fun k' s' => kk + 1 ≤ k' ∧ H k' s') (upd (upd ρ d1 p) d2 v') s' Q) :
    Wd prog ((⟨some d1, .buildSlice e 1 1 [z0] [(0, y)], none⟩, hi1) :: (⟨some d2, .append e 1 bytes x (.t d1), none⟩, hi2) :: r) kk H ρ s Q := by
  have hstep := Step.buildSlice (s := s) (e := e) (z := 1) (n := 1) (fill1 (z0 := z0) hy h1)
  have hpur : Pur s (s.new (.row e 1 [w] none none)).2 := new_chg
  have hnx : (s.new (.row e 1 [w] none none)).2.nextId = s.nextId + 1 := next_new _ _
  have hown : Own (s.new (.row e 1 [w] none none)).2 s.nextId 1 [w] := own_new
  refine Wd.make rfl hstep (ob := .row e 1 [w] none none) (by rw [obj_new, if_pos rfl]) (hH _ hpur) ?_
  obtain ⟨v', s', g1, g2, g3, g4⟩ := Step.append (P := fun _ => True) (e := e) (bytes := bytes) (ρ := upd ρ d1 (.slice (some ⟨s.nextId, 0, none⟩) 1 1)) (x := x) (y := .t d1) (v := v)
    (by cases x with
        | c v => exact hx
        | t n =>
          have := hxd n rfl
          have hf : Nat.beq n d1 = false := by
            cases hq : Nat.beq n d1 with
            | false => rfl
            | true => exact absurd (Nat.eq_of_beq_eq_true hq) this
          simp only [Opd.evE, upd, hf]; exact hx) (hl.pur hpur) (w := .slice (some ⟨s.nextId, 0, none⟩) 1 1) (by simp [Opd.evE, upd]) (Sl.of_own hown trivial (by simp)) (by omega) (by omega) h1 (by simpa using hb)
  rw [hnx] at g2
  obtain ⟨k1, k2⟩ := K _ v' s' g2 ((Chg.pur hpur).trans g3) (by omega)
  refine Wd.eff rfl g1 ⟨fun h => by omega, k1⟩ ?_
  exact Wd.weaken (fun k' s2 hh => ⟨fun h => by omega, hh.2⟩) k2

theorem Step.iaddrO {x y : Opd} {A o n c z : Nat} {k : IntKind} {i : Int} (hx : x.evE ρ = .slice (some ⟨A, o, none⟩) n c) (hy : y.evE ρ = .int k i) (h0 : 0 ≤ i) (hi : i < n) : Step ρ s (.iaddr z x y) (ptrV A (o + i.toNat * z)) s := by
  intro t ht
  have hb : Nat.ble (Nat.succ i.toNat) n = true := Nat.ble_eq_true_of_le (by omega)
  simp only [doOp, ht.ev, hx, hy, intN_of h0, hb]

theorem spl_one : ∀ {cs : List Value} {o : Nat} (v : Value), o < cs.length → spl cs o [v] = some (cs.set o v)
  | [], o, v, h => by simp at h
  | c :: cs, 0, v, h => by cases cs <;> simp [spl]
  | c :: cs, o + 1, v, h => by
    have := spl_one (cs := cs) (o := o) v (by simpa using h)
    simp [spl, this]
theorem spl_setU {xs : List UInt8} {i : Int} {c : UInt8} (h0 : 0 ≤ i) (h : i < xs.length) : spl (enU xs) (0 + i.toNat * 1) [.int .u8 ((c.toNat : Nat) : Int)] = some (enU (xs.set i.toNat c)) := by
  rw [Nat.zero_add, Nat.mul_one, spl_one _ (by simp; omega)]
  simp [enU, List.map_set]
theorem spl_setI {xs : List Int} {i : Int} {c : Int} (h0 : 0 ≤ i) (h : i < xs.length) : spl (enI xs) (0 + i.toNat * 1) [.int .i64 c] = some (enI (xs.set i.toNat c)) := by
  rw [Nat.zero_add, Nat.mul_one, spl_one _ (by simp; omega)]
  simp [enI, List.map_set]
theorem spl_setB {xs : List Bool} {i : Int} {c : Bool} (h0 : 0 ≤ i) (h : i < xs.length) : spl (enB xs) (0 + i.toNat * 1) [.bool c] = some (enB (xs.set i.toNat c)) := by
  rw [Nat.zero_add, Nat.mul_one, spl_one _ (by simp; omega)]
  simp [enB, List.map_set]
theorem ones3 {a b c : Value} (ha : ones [a] = true) (hb : ones [b] = true) (hc : ones [c] = true) : ones [a, b, c] = true := by
  cases a <;> cases b <;> cases c <;> simp_all [ones]
end
end Go.EvW
end

section
set_option linter.unusedVariables false
namespace Go.Co
open Go Go.Ev Go.EvW

theorem mul_bnd {a b A B : Int} (h : 0 ≤ a ∧ a ≤ A) (k : 0 ≤ b ∧ b ≤ B) : 0 ≤ a * b ∧ a * b ≤ A * B :=
  ⟨Int.mul_nonneg h.1 k.1, Int.mul_le_mul h.2 k.2 k.1 (by omega)⟩

theorem drop_geti {xs : List Int} {i : Nat} (h : i < xs.length) : xs.drop i = geti xs (i : Nat) :: xs.drop (i + 1) := by
  rw [List.drop_eq_getElem_cons h]
  simp [geti, h]
theorem geti_mem {xs : List Int} {i : Int} (h0 : 0 ≤ i) (h : i < xs.length) : geti xs i ∈ xs := by
  have : i.toNat < xs.length := by omega
  simp [geti, this]

theorem getu_mem {w : List UInt8} {i : Int} (h0 : 0 ≤ i) (h : i < w.length) : getu w i ∈ w := by
  have : i.toNat < w.length := by omega
  simp [getu, this]
theorem take_getu {w : List UInt8} {i : Nat} (h : i < w.length) : w.take (i + 1) = w.take i ++ [getu w (i : Nat)] := by
  rw [List.take_succ_eq_append_getElem h]
  simp [getu, h]

/-- Whole numbers of a machine. -/
def I64 (n : Int) : Prop := -9223372036854775808 ≤ n ∧ n < 9223372036854775808

/-- A tape in memory: its numbers lie in 'P'. -/
def MTape (P : Nat → Prop) (s : St) (T : Nat) : Prop :=
  ∃ v l at', Own s T 0 [v, .int .i64 ((at' : Nat) : Int)] ∧ IsInts s P v l ∧ at' ≤ l.length ∧ l.length ≤ 80 ∧ ∀ n ∈ l, I64 n

theorem MTape.chg {P M : Nat → Prop} {s s' : St} {T : Nat} (h : MTape P s T) (k : Chg M s s') (hT : ¬ M T) (hP : ∀ A, P A → ¬ M A) : MTape P s' T := by
  obtain ⟨v, l, a, h1, h2, h3⟩ := h
  exact ⟨v, l, a, h1.chg k hT, h2.chg k hP, h3⟩
theorem MTape.pur {P : Nat → Prop} {s s' : St} {T : Nat} (h : MTape P s T) (k : Pur s s') : MTape P s' T := h.chg k (fun h => h) (fun _ _ h => h)
theorem MTape.lt {P : Nat → Prop} {s : St} {T : Nat} (h : MTape P s T) : T < s.nextId := by
  obtain ⟨v, l, a, h1, h2, h3⟩ := h; exact h1.1

/-- Letters of a made word. -/
def Made (w : List UInt8) (k : Int) : Prop := ∀ c ∈ w, 97 ≤ c.toNat ∧ (c.toNat : Int) - 97 < k
end Go.Co
end

section
set_option linter.unusedVariables false
namespace Go.EvW
open Go Go.Ev _root_.Ev Go.RowKit

theorem cell_plain {w : World} {x : Addr} {v : Value} (h : w.cell? x = some v) : x.spot = none ∧ ∃ c el fz, w.heap[x.block]? = some (.cells c el fz) ∧ c[x.off]? = some v := by
  unfold World.cell? at h
  split at h
  · rename_i c el fz hb
    cases hs : x.spot with
    | none => simp [hs] at h; exact ⟨rfl, c, el, fz, hb, h⟩
    | some _ => simp [hs] at h
  · cases h

theorem addr_add_spot {x : Addr} (h : x.spot = none) (n : Nat) : x.add n = ⟨x.block, x.off + n, none⟩ := by
  obtain ⟨b, o, sp⟩ := x
  simp only at h
  subst h
  unfold Addr.add
  by_cases hn : n = 0 <;> simp [hn]

/-- One more row of an argument. -/
theorem _root_.Go.Ev.WR.input {base : Nat} {w : World} {β : Bl} {s : St} (hw : WR base w β s w) (hb : base = w.heap.size) {x : Addr} {len cap : Nat} {vs : List Value} (hlc : len ≤ cap) (hvl : vs.length = cap)
    (hcell : ∀ i v, vs[i]? = some v → w.cell? (x.add i) = some v) (hrefl : ∀ (β : Bl), VRs β vs vs) :
    ∃ β' s' v, WR base w β' s' w ∧ β.le β' ∧ VR β' v (.slice (some x) len cap) ∧ Pur s s' ∧ Sl s' (fun A => A < s'.nextId) 1 v len (vs.take len) := by
  have hs1 : Row (s.new (.row 0 1 (vs.take len) none (some 0))).2 s.nextId 1 (vs.take len) := ⟨by rw [next_new]; omega, 0, none, some 0, by rw [obj_new, if_pos rfl], .inr rfl⟩
  have hsl : ∀ c, len ≤ c → Sl (s.new (.row 0 1 (vs.take len) none (some 0))).2 (fun A => A < (s.new (.row 0 1 (vs.take len) none (some 0))).2.nextId) 1 (.slice (some ⟨s.nextId, 0, none⟩) len c) len (vs.take len) := fun c hc =>
    ⟨_, c, rfl, hc, by simp; omega, .inr ⟨s.nextId, 0, _, rfl, by rw [next_new]; omega, hs1, by simp; omega, by simp [List.take_take]⟩⟩
  have heldn : ∀ A e z cs g k, (s.new (.row 0 1 (vs.take len) none (some 0))).2.obj A = some (.row e z cs (some g) (some k)) → k ≤ epAt (s.new (.row 0 1 (vs.take len) none (some 0))).2.eps g := by
    intro A e z cs g k ho
    rw [obj_new] at ho
    rw [eps_new]
    by_cases e : A = s.nextId
    · rw [if_pos e] at ho; cases ho
    · rw [if_neg e] at ho; exact hw.eld _ _ _ _ _ _ ho
  have hfresh : ∀ A, (s.new (.row 0 1 (vs.take len) none (some 0))).2.nextId ≤ A → (s.new (.row 0 1 (vs.take len) none (some 0))).2.obj A = none := fun A hA => by
    rw [next_new] at hA
    rw [obj_new, if_neg (by omega)]
    exact hw.fresh A (by omega)
  by_cases hc0 : cap = 0
  · subst hc0
    obtain rfl : len = 0 := by omega
    refine ⟨β, (s.new (.row 0 1 (vs.take 0) none (some 0))).2, .slice (some ⟨s.nextId, 0, none⟩) 0 0, ⟨hw.below, hw.hb, fun A p hA => ?_, fun A p o hA ho => ?_, hfresh, heldn, fun A p o hA ho hm => ?_⟩, Bl.le_refl _, .sliceE _ _ _, new_chg, hsl 0 (by omega)⟩
    · obtain ⟨h1, h2, o, h3⟩ := hw.dom A p hA
      refine ⟨by rw [next_new]; omega, h2, o, ?_⟩
      rw [obj_new, if_neg (by omega)]; exact h3
    · rw [obj_new, if_neg (by have := (hw.dom A p hA).1; omega)] at ho
      rw [eps_new]
      exact hw.rel A p o hA ho
    · rw [obj_new, if_neg (by have := (hw.dom A p hA).1; omega)] at ho
      obtain ⟨k1, k2⟩ := hw.own A p o hA ho hm
      refine ⟨k1, fun A' p' o' hne hA' hbb ho' => ?_⟩
      rw [obj_new, if_neg (by have := (hw.dom A' p' hA').1; omega)] at ho'
      rw [eps_new]
      exact k2 A' p' o' hne hA' hbb ho'
  · -- a place in memory
    obtain ⟨v0, hv0⟩ : ∃ v0, vs[0]? = some v0 := ⟨vs[0]'(by omega), List.getElem?_eq_getElem (by omega)⟩
    obtain ⟨vl, hvl'⟩ : ∃ vl, vs[cap - 1]? = some vl := ⟨vs[cap - 1]'(by omega), List.getElem?_eq_getElem (by omega)⟩
    have hc0' := hcell 0 v0 hv0
    obtain ⟨hspot, _⟩ := cell_plain (x := x) (by simpa [Addr.add] using hc0')
    have hadd := addr_add_spot hspot
    obtain ⟨_, c, el, fz, hblk, _⟩ := cell_plain (by rw [hadd] at hc0'; exact hc0')
    simp only at hblk
    have hget : ∀ i v, vs[i]? = some v → c[x.off + i]? = some v := fun i v hv => by
      obtain ⟨_, c', el', fz', hblk', h'⟩ := cell_plain (by have := hcell i v hv; rw [hadd] at this; exact this)
      simp only at hblk' h'
      rw [hblk] at hblk'
      cases hblk'
      exact h'
    have hend : x.off + cap ≤ c.size := by
      have h1 := hget _ _ hvl'
      have := (Array.getElem?_eq_some_iff.1 h1).1
      omega
    have hlt : x.block < w.heap.size := (Array.getElem?_eq_some_iff.1 hblk).1
    let p : Pl := ⟨x.block, x.off, c.size, 1⟩
    have hle := hw.le_add p
    have hold : ∀ A, A ≠ s.nextId → (β.add s.nextId p) A = β A := fun A hA => by simp [Bl.add, hA]
    have hnew : (β.add s.nextId p) s.nextId = some p := by simp [Bl.add]
    refine ⟨β.add s.nextId p, (s.new (.row 0 1 (vs.take len) none (some 0))).2, .slice (some ⟨s.nextId, 0, none⟩) len len, ⟨hw.below, hw.hb, fun A q hA => ?_, fun A q o hA ho => ?_, hfresh, heldn, fun A q o hA ho hm => ?_⟩, hle, ?_, new_chg, hsl len (by omega)⟩
    · rw [next_new, obj_new]
      by_cases e : A = s.nextId
      · subst e; rw [hnew] at hA; cases hA; exact ⟨by omega, hlt, _, by rw [if_pos rfl]⟩
      · rw [hold A e] at hA
        obtain ⟨h1, h2, o', h3⟩ := hw.dom A q hA
        exact ⟨by omega, h2, o', by rw [if_neg e]; exact h3⟩
    · rw [obj_new] at ho
      rw [eps_new]
      by_cases e : A = s.nextId
      · subst e; rw [hnew] at hA; cases hA
        simp at ho; subst ho
        refine ⟨rfl, fun _ => ⟨c, el, fz, hblk, rfl, by show x.off + (vs.take len).length ≤ c.size; simp; omega, fun i v hv => ?_, fun h => by cases h⟩⟩
        rw [List.getElem?_take] at hv
        split at hv
        · obtain ⟨v', h1, h2⟩ := (hrefl (β.add s.nextId p)).get hv
          rw [hv] at h1
          cases h1
          exact ⟨v, hget i v hv, h2⟩
        · cases hv
      · rw [hold A e] at hA
        simp [e] at ho
        exact (hw.rel A q o hA ho).mono hle
    · rw [obj_new] at ho
      by_cases e : A = s.nextId
      · subst e; simp at ho; subst ho; cases hm
      · rw [hold A e] at hA
        simp [e] at ho
        obtain ⟨k1, k2⟩ := hw.own A q o hA ho hm
        refine ⟨k1, fun A' p' o' hne hA' hbb ho' => ?_⟩
        rw [obj_new] at ho'
        rw [eps_new]
        by_cases e' : A' = s.nextId
        · subst e'; rw [hnew] at hA'; cases hA'
          exfalso
          have : x.block = q.b := hbb
          omega
        · rw [hold A' e'] at hA'
          simp [e'] at ho'
          exact k2 A' p' o' hne hA' hbb ho'
    · obtain ⟨b, o, sp⟩ := x
      simp only at hspot
      subst hspot
      have := VR.slice (β := β.add s.nextId p) s.nextId p 0 len len cap hnew (Nat.le_refl _) hlc (by show o + 0 + cap * 1 ≤ c.size; simp only at hend; omega)
      simpa [p] using this

theorem enI_refl (β : Bl) : ∀ zs : List Int, VRs β (enI zs) (enI zs)
  | [] => .nil
  | z :: zs => .cons _ _ _ _ (.int _ _) (enI_refl β zs)

/-- A row of whole numbers as a law's row tells it. -/
def InRow (w : World) (a : Option Addr) (len cap : Nat) (zs : List Int) : Prop :=
  (a = none ∧ len = 0 ∧ cap = 0 ∧ zs = []) ∨
  ∃ x, a = some x ∧ len ≤ cap ∧ zs.length = cap ∧ (∀ i, i < zs.length → w.cell? (x.add i) = some (.int .i64 (zs.getD i 0))) ∧ ∀ n ∈ zs, Co.I64 n

theorem _root_.Go.Ev.WR.inputI {base : Nat} {w : World} {β : Bl} {s : St} (hw : WR base w β s w) (hb : base = w.heap.size) {a : Option Addr} {len cap : Nat} {zs : List Int} (h : InRow w a len cap zs) :
    ∃ β' s' v, WR base w β' s' w ∧ β.le β' ∧ VR β' v (.slice a len cap) ∧ Pur s s' ∧ IsInts s' (fun A => A < s'.nextId) v (zs.take len) ∧ (zs.take len).length = len ∧ ∀ n ∈ zs.take len, Co.I64 n := by
  rcases h with ⟨rfl, rfl, rfl, rfl⟩ | ⟨x, rfl, hlc, hl, hcell, hwf⟩
  · exact ⟨β, s, .slice none 0 0, hw, Bl.le_refl _, .sliceNil, Chg.refl _, Sl.nil, rfl, fun n hn => by simp at hn⟩
  · obtain ⟨β', s', v, h1, h2, h3, h4, h5⟩ := hw.input hb (x := x) (vs := enI zs) hlc (by simpa using hl) (fun i v hv => by
      simp only [enI, List.getElem?_map, Option.map_eq_some_iff] at hv
      obtain ⟨n, hn, rfl⟩ := hv
      have hi := (List.getElem?_eq_some_iff.1 hn).1
      rw [hcell i hi]
      simp [List.getD, hn]) (fun β => enI_refl β zs)
    have hlen : (zs.take len).length = len := by simp; omega
    refine ⟨β', s', v, h1, h2, h3, h4, ?_, hlen, fun n hn => hwf n (List.mem_of_mem_take hn)⟩
    unfold IsInts
    rw [hlen, enI, List.map_take]
    exact h5

theorem _root_.Go.Ev.WR.start (w : World) : WR w.heap.size w (fun _ => none) (.mk .nil 0 .nil) w := by
  refine ⟨Below.refl .., Nat.le_refl _, fun A p h => (by cases h), fun A p o h => (by cases h), fun A _ => T.get_nil A, fun A e z cs g k h => ?_, fun A p o h => (by cases h)⟩
  rw [show (St.mk .nil 0 .nil).obj A = none from T.get_nil A] at h; cases h

/-- What is said of a call here is so. -/
theorem calls_of {P : Program} (hm : P.follows .mixedOrders = true) {prog : Nat → Option CFunc} (hp : ProgOk P prog) {f : Nat} {args args' : List Value} {β : Bl} {s : St} {w : World} (hw : WR w.heap.size w β s w) (ha : VRs β args args')
    (h : Wf prog f args s (fun v s' => v = .bool true)) : Calls P f ⟨args'⟩ w fun e w' => e = .returned (.bool true) ∧ Below w.heap.size w w' := by
  obtain ⟨n, v, s', hev, rfl⟩ := h
  refine Calls.mono ((call_ok (base := w.heap.size) (w0 := w) hm hp n _ _ _ _ _ hev).2.2 β w args' hw ha) fun e w' hh => ?_
  obtain ⟨v', β', rfl, hv, _, _, hwr⟩ := hh
  cases hv
  exact ⟨rfl, hwr.below⟩
end Go.EvW
end
