/- Walks: made arguments, counters, the law. -/
import Derived.Test.YtehpiiimckodmaaEv5
import Derived.Test.YtehpiiimckodmaaKCO
import Derived.Test.YtehpiiimckodmaaK37
set_option linter.unusedVariables false
set_option linter.unusedSimpArgs false
section
set_option linter.unusedVariables false
set_option maxRecDepth 100000
namespace Go.EvK
open Go Go.Ev Go.EvW Go.Co
theorem made_Mod_ok {s : St} {x n : Int} (hx : -9223372036854775808 ≤ x ∧ x < 9223372036854775808) (hn : n < 9223372036854775808) :
    Wf kprog n_made_Mod [.int .i64 x, .int .i64 n] s (fun v s' => v = .int .i64 (if n < 1 then 0 else x % n) ∧ s = s') := by
  refine Wf.of p_made_Mod rfl ?_
  unfold c_made_Mod
  refine Wc.seq ?_
  refine Wc.reg ?_
  refine Wo.op (Step.move (by conv => lhs; whnf)) ?_
  refine Wo.nil ?_
  refine Wc.seq ?_
  refine Wc.seq ?_
  refine Wc.reg ?_
  refine Wo.op (Step.move (by conv => lhs; whnf)) ?_
  refine Wo.op (Step.lss (b := 1) rfl rfl) ?_
  refine Wo.nil ?_
  refine Wc.ite rfl (fun hc6 => ?_) (fun hc6 => ?_)
  · skip
    refine Wc.seq ?_
    refine Wc.reg ?_
    refine Wo.op (Step.move (by conv => lhs; whnf)) ?_
    refine Wo.nil ?_
    refine Wc.ret ⟨_, Rs.tmp (by conv => lhs; whnf) (Rs.nil), ?_⟩
    exact ⟨by rw [if_pos (by omega)]; rfl, rfl⟩
  · skip
    refine Wc.skip ?_
    refine Wc.seq ?_
    refine Wc.reg ?_
    refine Wo.op (Step.move (by conv => lhs; whnf)) ?_
    refine Wo.op (Step.move (by conv => lhs; whnf)) ?_
    refine Wo.op (Step.remw rfl rfl (by omega)) ?_
    have hm : x.tmod n = if 0 ≤ x ∨ n ∣ x then x % n else x % n - n := by rw [Int.tmod_eq_emod]; split <;> simp [Int.natAbs_of_nonneg (show 0 ≤ n by omega)] <;> omega
    have hm1 := Int.emod_nonneg x (show n ≠ 0 by omega)
    have hm2 := Int.emod_lt_of_pos x (show 0 < n by omega)
    refine Wo.op (Step.move (by conv => lhs; whnf)) ?_
    refine Wo.nil ?_
    refine Wc.seq ?_
    refine Wc.seq ?_
    refine Wc.reg ?_
    refine Wo.op (Step.move (by conv => lhs; whnf)) ?_
    refine Wo.op (Step.lss (b := 0) rfl rfl) ?_
    refine Wo.nil ?_
    refine Wc.ite rfl (fun hc11 => ?_) (fun hc11 => ?_)
    · skip
      refine Wc.reg ?_
      refine Wo.op (Step.move (by conv => lhs; whnf)) ?_
      refine Wo.op (Step.move (by conv => lhs; whnf)) ?_
      refine Wo.op (Step.add rfl rfl (by omega)) ?_
      refine Wo.op (Step.move (by conv => lhs; whnf)) ?_
      refine Wo.nil ?_
      refine Wc.seq ?_
      refine Wc.reg ?_
      refine Wo.op (Step.move (by conv => lhs; whnf)) ?_
      refine Wo.op (Step.move (by conv => lhs; whnf)) ?_
      refine Wo.nil ?_
      refine Wc.ret ⟨_, Rs.tmp (by conv => lhs; whnf) (Rs.nil), ?_⟩
      exact ⟨congrArg (Value.int .i64) (by rw [if_neg (by omega), hm]; split <;> omega), rfl⟩
    · skip
      refine Wc.skip ?_
      refine Wc.seq ?_
      refine Wc.reg ?_
      refine Wo.op (Step.move (by conv => lhs; whnf)) ?_
      refine Wo.op (Step.move (by conv => lhs; whnf)) ?_
      refine Wo.nil ?_
      refine Wc.ret ⟨_, Rs.tmp (by conv => lhs; whnf) (Rs.nil), ?_⟩
      exact ⟨congrArg (Value.int .i64) (by rw [if_neg (by omega), hm]; split <;> omega), rfl⟩
theorem made_New_ok {s : St} {P : Nat → Prop} {v : Value} {l : List Int} (h : IsInts s P v l) (hl : l.length ≤ 281474976710656) (hw : ∀ n ∈ l, I64 n) :
    Wf kprog n_made_New [v] s (fun v s' => v = ptrV s.nextId 0 ∧ Pur s s' ∧ s'.nextId = s.nextId + 1 ∧ MTape P s' s.nextId) := by
  refine Wf.of p_made_New rfl ?_
  unfold c_made_New
  refine Wc.seq ?_
  refine Wc.reg ?_
  refine Wo.op (Step.move (by conv => lhs; whnf)) ?_
  refine Wo.nil ?_
  refine Wc.seq ?_
  refine Wc.seq ?_
  refine Wc.reg ?_
  refine Wo.op (Step.move (by conv => lhs; whnf)) ?_
  refine Wo.op (Step.lenSl rfl (by assumption)) ?_
  refine Wo.op (Step.gtr (b := 80) rfl rfl) ?_
  refine Wo.nil ?_
  refine Wc.ite rfl (fun hc5 => ?_) (fun hc5 => ?_)
  · skip
    refine Wc.reg ?_
    refine Wo.op (Step.move (by conv => lhs; whnf)) ?_
    refine Wo.slice rfl (by assumption) Bnd.none (Bnd.some (i := 80) rfl (by omega)) (by omega) (by omega) ?_
    intro vS7 hS7
    have hI7 := Sl.cutI (l := 0) (h := 80) (by omega) (by omega) hS7
    refine Wo.op (Step.move (by conv => lhs; whnf)) ?_
    refine Wo.nil ?_
    refine Wc.seq ?_
    refine Wc.reg ?_
    refine Wo.op (Step.move (by conv => lhs; whnf)) ?_
    refine Wo.op (Step.buildF (Fill.cons (by conv => lhs; whnf) (by first | exact Sl.cell (by assumption) | exact Lst.cell (by assumption) | rfl) (by rfl) (by rfl) (Fill.nil _))) ?_
    refine Wo.box (by conv => lhs; whnf) ?_
    intro sB10 eB10 oB10 nB10
    refine Wo.op (Step.move (by conv => lhs; whnf)) ?_
    refine Wo.nil ?_
    refine Wc.ret ⟨_, Rs.tmp (by conv => lhs; whnf) (Rs.nil), ?_⟩
    exact ⟨rfl, eB10, nB10, _, _, 0, oB10, hI7.pur eB10, by omega, by simp; omega, fun n hn => hw n (List.mem_of_mem_take (by simpa using hn))⟩
  · skip
    refine Wc.skip ?_
    refine Wc.seq ?_
    refine Wc.reg ?_
    refine Wo.op (Step.move (by conv => lhs; whnf)) ?_
    refine Wo.op (Step.buildF (Fill.cons (by conv => lhs; whnf) (by first | exact Sl.cell (by assumption) | exact Lst.cell (by assumption) | rfl) (by rfl) (by rfl) (Fill.nil _))) ?_
    refine Wo.box (by conv => lhs; whnf) ?_
    intro sB10 eB10 oB10 nB10
    refine Wo.op (Step.move (by conv => lhs; whnf)) ?_
    refine Wo.nil ?_
    refine Wc.ret ⟨_, Rs.tmp (by conv => lhs; whnf) (Rs.nil), ?_⟩
    exact ⟨rfl, eB10, nB10, _, _, 0, oB10, h.pur eB10, by omega, by omega, hw⟩
theorem made_Tape_Next_ok {s : St} {P : Nat → Prop} {T : Nat} {n : Int} (h : MTape P s T) (hPT : ¬ P T) (hn : I64 n) :
    Wf kprog n_made_Tape_Next [ptrV T 0, .int .i64 n] s (fun v s' => ∃ r, v = .int .i64 r ∧ 0 ≤ r ∧ (r < n ∨ r = 0) ∧ Wrt T s s' ∧ s'.nextId = s.nextId ∧ MTape P s' T) := by
  obtain ⟨v, l, a, hO, hI, ha, hl, hw⟩ := h
  refine Wf.of p_made_Tape_Next rfl ?_
  unfold c_made_Tape_Next
  refine Wc.seq ?_
  refine Wc.reg ?_
  refine Wo.op (Step.move (by conv => lhs; whnf)) ?_
  refine Wo.nil ?_
  refine Wc.seq ?_
  refine Wc.seq ?_
  refine Wc.draw ?_
  refine Wd.pure rfl (Step.move (by conv => lhs; whnf)) ?_
  refine Wd.pure rfl (Step.nilCheck rfl) ?_
  refine Wd.pure rfl (Step.faddr rfl) ?_
  refine Wd.read rfl (Step.load rfl (by first | assumption | exact Own.row (by assumption)) (by rfl)) ?_
  refine Wd.pure rfl (Step.move (by conv => lhs; whnf)) ?_
  refine Wd.pure rfl (Step.nilCheck rfl) ?_
  refine Wd.pure rfl (Step.faddr rfl) ?_
  refine Wd.read rfl (Step.load rfl (by first | assumption | exact Own.row (by assumption)) (by rfl)) ?_
  refine Wd.pure rfl (Step.lenSl rfl (by assumption)) ?_
  refine Wd.pure rfl (Step.geq rfl rfl) ?_
  refine Wd.nil ?_
  refine Wc.ite rfl (fun hc14 => ?_) (fun hc14 => ?_)
  · skip
    refine Wc.seq ?_
    refine Wc.reg ?_
    refine Wo.op (Step.move (by conv => lhs; whnf)) ?_
    refine Wo.nil ?_
    refine Wc.ret ⟨_, Rs.tmp (by conv => lhs; whnf) (Rs.nil), ?_⟩
    exact ⟨0, rfl, by omega, by omega, Chg.refl _, rfl, v, l, a, hO, hI, ha, hl, hw⟩
  · skip
    refine Wc.skip ?_
    refine Wc.seq ?_
    refine Wc.reg ?_
    refine Wo.op (Step.move (by conv => lhs; whnf)) ?_
    refine Wo.op (Step.nilCheck rfl) ?_
    refine Wo.op (Step.faddr rfl) ?_
    refine Wo.op (Step.load rfl (by first | assumption | exact Own.row (by assumption)) (by rfl)) ?_
    refine Wo.op (Step.add (b := 1) rfl rfl (by omega)) ?_
    refine Wo.op (Step.nilCheck rfl) ?_
    refine Wo.op (Step.faddr rfl) ?_
    refine Wo.store rfl (by first | exact Sl.cell (by assumption) | exact Lst.cell (by assumption) | (conv => lhs; whnf)) (by rfl) (by first | rfl | exact Sl.one (by assumption) | exact Lst.one (by assumption)) (by assumption) (by rfl) ?_
    intro sS0 wS0 oS0 nS0
    have hIs := hI.chg wS0 (fun A hA e => hPT (e ▸ hA))
    refine Wo.nil ?_
    refine Wc.seq ?_
    refine Wc.draw ?_
    refine Wd.pure rfl (Step.move (by conv => lhs; whnf)) ?_
    refine Wd.pure rfl (Step.nilCheck rfl) ?_
    refine Wd.pure rfl (Step.faddr rfl) ?_
    refine Wd.read rfl (Step.load rfl (by first | assumption | exact Own.row (by assumption)) (by rfl)) ?_
    refine Wd.pure rfl (Step.move (by conv => lhs; whnf)) ?_
    refine Wd.pure rfl (Step.nilCheck rfl) ?_
    refine Wd.pure rfl (Step.faddr rfl) ?_
    refine Wd.read rfl (Step.load rfl (by first | assumption | exact Own.row (by assumption)) (by rfl)) ?_
    refine Wd.pure rfl (Step.sub (b := 1) rfl rfl (by omega)) ?_
    have hgi := hw _ (geti_mem (xs := l) (i := ((a : Nat) : Int) + 1 - 1) (by omega) (by omega))
    first | refine Wd.idxI rfl (by assumption) rfl (by omega) (by omega) ?_ | refine Wd.idxB rfl (by assumption) rfl (by omega) (by omega) ?_ | refine Wd.idxU rfl (by assumption) rfl (by omega) (by omega) ?_
    intro p31
    refine Wd.pure rfl (Step.move (by conv => lhs; whnf)) ?_
    -- call made_Mod
    refine Wd.call (Wf.mono (made_Mod_ok hgi hn.2) ?_)
    rintro _ s2 ⟨rfl, rfl⟩
    refine ⟨by simp, ?_⟩
    have hm1 := fun h => Int.emod_nonneg (geti l (((a : Nat) : Int) + 1 - 1)) (show n ≠ 0 from h)
    have hm2 := fun h => Int.emod_lt_of_pos (geti l (((a : Nat) : Int) + 1 - 1)) (show 0 < n from h)
    refine Wd.pure rfl (Step.move (by conv => lhs; whnf)) ?_
    refine Wd.nil ?_
    refine Wc.ret ⟨_, Rs.tmp (by conv => lhs; whnf) (Rs.nil), ?_⟩
    exact ⟨_, rfl, by split <;> omega, by split <;> omega, wS0, nS0, v, l, a + 1, oS0, hIs, by omega, hl, hw⟩
theorem made_Tape_Word_ok {s : St} {P : Nat → Prop} {T : Nat} {k most : Int} (h : MTape P s T) (hPT : ¬ P T) (hPN : ∀ A, P A → A < s.nextId) (hk : 1 ≤ k ∧ k ≤ 26) (hm : 0 ≤ most ∧ most ≤ 1000) :
    Wf kprog n_made_Tape_Word [ptrV T 0, .int .i64 k, .int .i64 most] s (fun v s' => ∃ w : List UInt8, v = .string ⟨⟨w⟩⟩ ∧ w.length ≤ most.toNat ∧ Made w k ∧ Wrt T s s' ∧ MTape P s' T) := by
  refine Wf.of p_made_Tape_Word rfl ?_
  unfold c_made_Tape_Word
  refine Wc.seq ?_
  refine Wc.reg ?_
  refine Wo.op (Step.move (by conv => lhs; whnf)) ?_
  refine Wo.nil ?_
  refine Wc.seq ?_
  refine Wc.reg ?_
  refine Wo.op (Step.move (by conv => lhs; whnf)) ?_
  refine Wo.nil ?_
  refine Wc.seq ?_
  refine Wc.seq ?_
  refine Wc.reg ?_
  refine Wo.op (Step.move (by conv => lhs; whnf)) ?_
  refine Wo.op (Step.move (by conv => lhs; whnf)) ?_
  refine Wo.op (Step.add (b := 1) rfl rfl (by omega)) ?_
  -- call made_Tape_Next
  refine Wo.call (Wf.mono (made_Tape_Next_ok h hPT ⟨by omega, by omega⟩) ?_)
  rintro _ s1 ⟨n0, rfl, hn0, hn1, e1, nx1, h1⟩
  refine Wo.op (Step.move (by conv => lhs; whnf)) ?_
  refine Wo.nil ?_
  refine Wc.mid (fun ρ' s' => ∃ (v : Value) (w : List UInt8) (A : Nat), (ρ' 7 = v) ∧ (Wrt T s s') ∧ (MTape P s' T) ∧ (Lst s' A 1 v (enU w)) ∧ (w.length ≤ most.toNat) ∧ (Made w k)) (Wc.block (Wc.loop (fun m ρ' s' => ∃ (n : Int) (v : Value) (w : List UInt8) (A : Nat), (ρ' 0 = ptrV T 0) ∧ (ρ' 1 = .int .i64 k) ∧ (ρ' 8 = .int .i64 n) ∧ (ρ' 7 = v) ∧ (m = n.toNat) ∧ (Wrt T s s') ∧ (MTape P s' T) ∧ (Lst s' A 1 v (enU w)) ∧ (w ≠ [] → s.nextId ≤ A) ∧ (0 ≤ n ∧ w.length + n ≤ most) ∧ (Made w k)) ?_ ?_)) ?_
  · exact ⟨_, _, _, [], 0, rfl, rfl, rfl, rfl, rfl, e1, h1, Lst.nil, by simp, by simp; omega, by intro c hc; simp at hc⟩
  · intro m ρ0 s0 hI
    obtain ⟨n, v, w, A, e0, e1, e8, e7, hm, he, ht, hL, hA, hn, hw⟩ := hI
    refine Wc.fix (k := 0) e0 ?_
    refine Wc.fix (k := 1) e1 ?_
    refine Wc.fix (k := 8) e8 ?_
    refine Wc.fix (k := 7) e7 ?_
    have hTs := h.lt
    refine Wc.seq ?_
    refine Wc.seq ?_
    refine Wc.reg ?_
    refine Wo.op (Step.move (by conv => lhs; whnf)) ?_
    refine Wo.op (Step.gtr (b := 0) rfl rfl) ?_
    refine Wo.nil ?_
    refine Wc.ite rfl (fun hc14 => ?_) (fun hc14 => ?_)
    · skip
      refine Wc.skip ?_
      refine Wc.seq ?_
      refine Wc.block ?_
      refine Wc.reg ?_
      refine Wo.op (Step.move (by conv => lhs; whnf)) ?_
      refine Wo.op (Step.move (by conv => lhs; whnf)) ?_
      refine Wo.op (Step.move (by conv => lhs; whnf)) ?_
      -- call made_Tape_Next
      refine Wo.call (Wf.mono (made_Tape_Next_ok ht hPT ⟨by omega, by omega⟩) ?_)
      rintro _ s2 ⟨r, rfl, hr0, hr1, e2, nx2, h2⟩
      have hL2 : Lst s2 A 1 v (enU w) := hL.chg e2 (fun hc e => by have := hA (by simpa using hc); omega)
      have hu : (UInt8.ofNat (97 + r).toNat).toNat = (97 + r).toNat := by simp; omega
      have hE : enU (w ++ [UInt8.ofNat (97 + r).toNat]) = enU w ++ [.int .u8 (97 + r)] := by
        simp only [enU, List.map_append, List.map_cons, List.map_nil, hu]
        rw [show (((97 + r).toNat : Nat) : Int) = 97 + r by omega]
      refine Wo.op (Step.add (a := 97) rfl rfl (by omega)) ?_
      refine Wo.op (Step.conv8 rfl (by omega)) ?_
      refine Wo.app1 (A := A) (cells := enU w) rfl hL2 rfl rfl (by simp) (by simp; omega) ?_
      intro p3 v3 s3 l3 c3 nx3
      have e3 : Wrt T s s3 := (he.trans e2).step c3 (fun B hB hh => by have := hA (by simpa using hh.2); omega)
      have t3 : MTape P s3 T := h2.chg c3 (fun hh => by have := hA (by simpa using hh.2); omega) (fun B hB hh => by have := hA (by simpa using hh.2); have := hPN B hB; omega)
      refine Wo.op (Step.move (by conv => lhs; whnf)) ?_
      refine Wo.nil ?_
      refine Wc.reg ?_
      refine Wo.op (Step.move (by conv => lhs; whnf)) ?_
      refine Wo.op (Step.sub (b := 1) rfl rfl (by omega)) ?_
      refine Wo.op (Step.move (by conv => lhs; whnf)) ?_
      refine Wo.nil ?_
      refine ⟨_, ?_, _, _, w ++ [UInt8.ofNat (97 + r).toNat], _, rfl, rfl, rfl, rfl, rfl, e3, t3, by rw [hE]; exact l3, fun _ => by have := he.1; have := e2.1; omega, by simp; omega, by intro c hc; rw [List.mem_append, List.mem_singleton] at hc; rcases hc with hc | rfl; exact hw c hc; rw [hu]; omega⟩
      omega
    · skip
      refine Wc.exit ?_
      refine .inl ⟨rfl, ?_⟩
      exact ⟨_, _, _, rfl, he, ht, hL, by omega, hw⟩
  · intro ρx0 sx0 hP
    obtain ⟨v, w, A, e7, he, ht, hL, hn, hw⟩ := hP
    show Wc _ _ _ _ _ _ _
    refine Wc.fix (k := 7) e7 ?_
    have hB := hL.bytes (P := fun _ => True) (fun _ => trivial)
    refine Wc.seq ?_
    refine Wc.reg ?_
    refine Wo.op (Step.move (by conv => lhs; whnf)) ?_
    refine Wo.op (Step.strOf rfl (by assumption)) ?_
    refine Wo.op (Step.move (by conv => lhs; whnf)) ?_
    refine Wo.nil ?_
    refine Wc.ret ⟨_, Rs.tmp (by conv => lhs; whnf) (Rs.nil), ?_⟩
    exact ⟨w, rfl, hn, hw, he, ht⟩
end Go.EvK
end

section
namespace Go.Co
open Go Go.Ev Go.EvW

/-- The number of combinations, cut off. -/
def sizeL : List Int → List Int → Int → Int
  | i :: is, p :: ps, n => if i > 2000 ∨ p > 2000 then 2001 else sizeL is ps (min (n * (i + p)) 2001)
  | _, _, n => n

/-- Indices and periods in order. -/
def Good (idx per : List Int) : Prop := idx.length = per.length ∧ (∀ n ∈ idx, 0 ≤ n) ∧ ∀ n ∈ per, 1 ≤ n

def prod : List Int → Int
  | [] => 1
  | m :: ms => m * prod ms

def mods (idx per : List Int) : List Int := List.zipWith (· + ·) idx per

theorem prod_pos : ∀ {ms : List Int}, (∀ m ∈ ms, 1 ≤ m) → 1 ≤ prod ms
  | [], _ => Int.le_refl _
  | m :: ms, h => by
    have h1 := prod_pos (ms := ms) fun x hx => h x (List.mem_cons_of_mem _ hx)
    have h2 := h m (List.mem_cons_self ..)
    have := Int.mul_le_mul h2 h1 (by omega) (by omega)
    simp only [prod]; omega

theorem prod_append : ∀ (a b : List Int), prod (a ++ b) = prod a * prod b
  | [], b => by simp [prod]
  | m :: a, b => by simp only [List.cons_append, prod, prod_append a b, Int.mul_assoc]

theorem mods_pos {idx per : List Int} (h : Good idx per) : ∀ m ∈ mods idx per, 1 ≤ m := by
  obtain ⟨hl, h1, h2⟩ := h
  unfold mods
  induction idx generalizing per with
  | nil => intro m hm; simp at hm
  | cons i is ih =>
    cases per with
    | nil => intro m hm; simp at hm
    | cons p ps =>
      intro m hm
      simp only [List.zipWith_cons_cons, List.mem_cons] at hm
      rcases hm with rfl | hm
      · have := h1 i (List.mem_cons_self ..); have := h2 p (List.mem_cons_self ..); omega
      · exact ih (by simpa using hl) (fun x hx => h1 x (List.mem_cons_of_mem _ hx)) (fun x hx => h2 x (List.mem_cons_of_mem _ hx)) m hm

theorem sizeL_eq : ∀ {idx per : List Int} {n : Int}, Good idx per → 1 ≤ n → n ≤ 2001 → sizeL idx per n = if n * prod (mods idx per) ≤ 2000 then n * prod (mods idx per) else 2001
  | [], per, n, h, h1, h2 => by
    simp only [sizeL, mods, List.zipWith_nil_left, prod, Int.mul_one]
    split <;> omega
  | i :: is, [], n, h, h1, h2 => by obtain ⟨hl, _⟩ := h; simp at hl
  | i :: is, p :: ps, n, h, h1, h2 => by
    obtain ⟨hl, h3, h4⟩ := h
    have hi := h3 i (List.mem_cons_self ..)
    have hp := h4 p (List.mem_cons_self ..)
    have hg : Good is ps := ⟨by simpa using hl, fun x hx => h3 x (List.mem_cons_of_mem _ hx), fun x hx => h4 x (List.mem_cons_of_mem _ hx)⟩
    have hr := prod_pos (mods_pos hg)
    have e : mods (i :: is) (p :: ps) = (i + p) :: mods is ps := rfl
    simp only [sizeL, e, prod]
    have hbig : ∀ z : Int, 2001 ≤ z → ¬ z * prod (mods is ps) ≤ 2000 := fun z hz => by
      have := Int.mul_le_mul hz hr (by omega) (by omega)
      omega
    have ha : n * ((i + p) * prod (mods is ps)) = n * (i + p) * prod (mods is ps) := (Int.mul_assoc ..).symm
    rw [ha]
    have hnm : n * (i + p) ≥ i + p := by
      have := Int.mul_le_mul_of_nonneg_right h1 (show 0 ≤ i + p by omega)
      omega
    split
    · rw [if_neg (hbig _ (by omega))]
    · by_cases hz : n * (i + p) ≤ 2001
      · rw [Int.min_eq_left hz, sizeL_eq hg (by omega) hz]
      · rw [Int.min_eq_right (by omega), sizeL_eq hg (by omega) (by omega), if_neg (hbig 2001 (by omega)), if_neg (hbig _ (by omega))]

/-- The number of a combination after one more letter. -/
def nextF (idx per : List Int) (at' a : Int) : Int :=
  if at' / prod ((mods idx per).drop (a + 1).toNat) % (geti idx a + geti per a) + 1 = geti idx a + geti per a
  then at' - (at' / prod ((mods idx per).drop (a + 1).toNat) % (geti idx a + geti per a) - geti idx a) * prod ((mods idx per).drop (a + 1).toNat)
  else at' + prod ((mods idx per).drop (a + 1).toNat)

theorem mods_length {idx per : List Int} (h : Good idx per) : (mods idx per).length = idx.length := by
  simp [mods, h.1]

theorem mods_drop {idx per : List Int} (h : Good idx per) {i : Nat} (hi : i < idx.length) : (mods idx per).drop i = (geti idx (i : Nat) + geti per (i : Nat)) :: (mods idx per).drop (i + 1) := by
  have h2 : i < per.length := by rw [← h.1]; exact hi
  have h3 : i < (mods idx per).length := by rw [mods_length h]; exact hi
  rw [List.drop_eq_getElem_cons h3]
  simp [mods, geti, hi, h2]

theorem prod_drop_le {idx per : List Int} (h : Good idx per) (i : Nat) : 1 ≤ prod ((mods idx per).drop i) ∧ prod ((mods idx per).drop i) ≤ prod (mods idx per) := by
  have hp := mods_pos h
  have h1 := prod_pos (ms := (mods idx per).drop i) fun m hm => hp m (List.mem_of_mem_drop hm)
  have h2 := prod_pos (ms := (mods idx per).take i) fun m hm => hp m (List.mem_of_mem_take hm)
  have h3 : prod (mods idx per) = prod ((mods idx per).take i) * prod ((mods idx per).drop i) := by rw [← prod_append, List.take_append_drop]
  refine ⟨h1, ?_⟩
  rw [h3]
  have := Int.mul_le_mul_of_nonneg_right h2 (show 0 ≤ prod ((mods idx per).drop i) by omega)
  omega

/-- A valid word over some letters. -/
def WordOk (w : List UInt8) (k : Int) : Prop := 1 ≤ k ∧ k ≤ 6 ∧ w.length ≤ 2048 ∧ ∀ c ∈ w, 97 ≤ c.toNat ∧ (c.toNat : Int) - 97 < k
instance (w : List UInt8) (k : Int) : Decidable (WordOk w k) := by unfold WordOk; infer_instance

/-! ### the number of a combination, by the numbers of the letters -/

def asF (n i p : Int) : Int := if n < i then n else i + (n - i) % p

def encA : List Int → List Int → List Int → Int
  | i :: is, p :: ps, n :: ns => asF n i p * prod (mods is ps) + encA is ps ns
  | _, _, _ => 0

theorem Good.tail {i p : Int} {is ps : List Int} (h : Good (i :: is) (p :: ps)) : Good is ps ∧ 0 ≤ i ∧ 1 ≤ p :=
  ⟨⟨by simpa using h.1, fun x hx => h.2.1 x (List.mem_cons_of_mem _ hx), fun x hx => h.2.2 x (List.mem_cons_of_mem _ hx)⟩, h.2.1 i (List.mem_cons_self ..), h.2.2 p (List.mem_cons_self ..)⟩

theorem asF_range {n i p : Int} (hn : 0 ≤ n) (hi : 0 ≤ i) (hp : 1 ≤ p) : 0 ≤ asF n i p ∧ asF n i p < i + p := by
  have h1 := Int.emod_nonneg (n - i) (show p ≠ 0 by omega)
  have h2 := Int.emod_lt_of_pos (n - i) (show 0 < p by omega)
  unfold asF
  split <;> omega

theorem asF_succ {n i p : Int} (hn : 0 ≤ n) (hi : 0 ≤ i) (hp : 1 ≤ p) : asF (n + 1) i p = if asF n i p + 1 = i + p then i else asF n i p + 1 := by
  have h1 := Int.emod_nonneg (n - i) (show p ≠ 0 by omega)
  have h2 := Int.emod_lt_of_pos (n - i) (show 0 < p by omega)
  unfold asF
  by_cases h : n < i
  · rw [if_pos h, if_neg (show ¬ (n + 1 = i + p) by omega)]
    split
    · rfl
    · rw [show n + 1 - i = 0 by omega]; simp; omega
  · rw [if_neg h, if_neg (by omega)]
    have e : n + 1 - i = (n - i) + 1 := by omega
    rw [e, Int.add_emod]
    by_cases hq : (n - i) % p = p - 1
    · rw [if_pos (by omega), hq]
      by_cases hp1 : p = 1
      · subst hp1; simp [Int.emod_one]
      · rw [Int.emod_eq_of_lt (show (0:Int) ≤ 1 by omega) (by omega), show p - 1 + 1 = p by omega, Int.emod_self]; omega
    · rw [if_neg (by omega)]
      by_cases hp1 : p = 1
      · omega
      · rw [Int.emod_eq_of_lt (show (0:Int) ≤ 1 by omega) (by omega), Int.emod_eq_of_lt (by omega) (by omega)]; omega

theorem encA_range : ∀ {idx per ns : List Int}, Good idx per → (∀ n ∈ ns, 0 ≤ n) → ns.length = idx.length → 0 ≤ encA idx per ns ∧ encA idx per ns < prod (mods idx per)
  | [], per, ns, h, hn, hl => by simp [encA, mods, prod]
  | i :: is, [], ns, h, hn, hl => by have := h.1; simp at this
  | i :: is, p :: ps, [], h, hn, hl => by simp at hl
  | i :: is, p :: ps, n :: ns, h, hn, hl => by
    obtain ⟨hg, hi, hp⟩ := h.tail
    have ih := encA_range (ns := ns) hg (fun x hx => hn x (List.mem_cons_of_mem _ hx)) (by simpa using hl)
    have ha := asF_range (hn n (List.mem_cons_self ..)) hi hp
    have e : mods (i :: is) (p :: ps) = (i + p) :: mods is ps := rfl
    simp only [encA, e, prod]
    generalize prod (mods is ps) = u at *
    generalize asF n i p = d at *
    have h1 : 0 ≤ d * u := Int.mul_nonneg ha.1 (by omega)
    have h2 : (d + 1) * u ≤ (i + p) * u := Int.mul_le_mul_of_nonneg_right (by omega) (by omega)
    rw [Int.add_mul, Int.one_mul] at h2
    omega

theorem geti_cons_zero (x : Int) (xs : List Int) : geti (x :: xs) 0 = x := rfl
theorem geti_cons_succ (x : Int) (xs : List Int) (a : Nat) : geti (x :: xs) ((a : Int) + 1) = geti xs a := by
  unfold geti
  rw [show ((a : Int) + 1).toNat = a + 1 by omega]
  simp

theorem nextF_zero {i p : Int} {is ps : List Int} {d e : Int} (hd : 0 ≤ d ∧ d < i + p) (he : 0 ≤ e ∧ e < prod (mods is ps)) :
    nextF (i :: is) (p :: ps) (d * prod (mods is ps) + e) 0 = (if d + 1 = i + p then i else d + 1) * prod (mods is ps) + e := by
  have ed : (mods (i :: is) (p :: ps)).drop ((0 : Int) + 1).toNat = mods is ps := rfl
  unfold nextF
  rw [ed, geti_cons_zero, geti_cons_zero]
  generalize prod (mods is ps) = u at *
  have e1 : (d * u + e) / u = d := by
    rw [Int.add_comm, Int.add_mul_ediv_right _ _ (by omega), Int.ediv_eq_zero_of_lt he.1 he.2]; omega
  rw [e1, Int.emod_eq_of_lt hd.1 hd.2]
  split
  · rw [Int.sub_mul]; omega
  · rw [Int.add_mul]; omega

theorem nextF_succ {i p : Int} {is ps : List Int} (hg : Good is ps) {d e : Int} {a : Nat} (ha : a < is.length) :
    nextF (i :: is) (p :: ps) (d * prod (mods is ps) + e) ((a : Int) + 1) = d * prod (mods is ps) + nextF is ps e a := by
  have ed : (mods (i :: is) (p :: ps)).drop ((a : Int) + 1 + 1).toNat = (mods is ps).drop ((a : Int) + 1).toNat := by
    rw [show ((a : Int) + 1 + 1).toNat = a + 2 by omega, show ((a : Int) + 1).toNat = a + 1 by omega]; rfl
  have hap : a < ps.length := by rw [← hg.1]; exact ha
  unfold nextF
  rw [ed, geti_cons_succ, geti_cons_succ, show ((a : Int) + 1).toNat = a + 1 by omega]
  have hm : (mods is ps).drop a = (geti is a + geti ps a) :: (mods is ps).drop (a + 1) := mods_drop hg ha
  have hu : prod (mods is ps) = prod ((mods is ps).take a) * ((geti is a + geti ps a) * prod ((mods is ps).drop (a + 1))) := by
    have : prod (mods is ps) = prod ((mods is ps).take a) * prod ((mods is ps).drop a) := by rw [← prod_append, List.take_append_drop]
    rw [this, hm]; rfl
  have hu1 := (prod_drop_le hg (a + 1)).1
  have hm1 : 1 ≤ geti is a + geti ps a := by
    have := hg.2.1 _ (geti_mem (xs := is) (i := a) (by omega) (by omega))
    have := hg.2.2 _ (geti_mem (xs := ps) (i := a) (by omega) (by omega))
    omega
  generalize prod ((mods is ps).drop (a + 1)) = u at *
  generalize geti is a + geti ps a = m at *
  generalize prod ((mods is ps).take a) = q at *
  generalize prod (mods is ps) = z at *
  have e1 : (d * z + e) / u % m = e / u % m := by
    have e2 : d * z + e = e + (d * q * m) * u := by rw [hu]; simp only [Int.mul_assoc]; omega
    rw [e2, Int.add_mul_ediv_right _ _ (by omega), Int.add_mul_emod_self_right]
  rw [e1]
  split <;> omega

theorem nextF_enc : ∀ {idx per ns : List Int} {a : Nat}, Good idx per → (∀ n ∈ ns, 0 ≤ n) → ns.length = idx.length → a < idx.length →
    nextF idx per (encA idx per ns) a = encA idx per (ns.set a (geti ns a + 1))
  | [], per, ns, a, h, hn, hl, ha => by simp at ha
  | i :: is, [], ns, a, h, hn, hl, ha => by have := h.1; simp at this
  | i :: is, p :: ps, [], a, h, hn, hl, ha => by simp at hl
  | i :: is, p :: ps, n :: ns, a, h, hn, hl, ha => by
    obtain ⟨hg, hi, hp⟩ := h.tail
    have hr := encA_range (ns := ns) hg (fun x hx => hn x (List.mem_cons_of_mem _ hx)) (by simpa using hl)
    have hn0 := hn n (List.mem_cons_self ..)
    have hd := asF_range hn0 hi hp
    cases a with
    | zero =>
      simp only [encA, List.set_cons_zero]
      rw [show ((0 : Nat) : Int) = 0 from rfl, nextF_zero hd hr, geti_cons_zero, asF_succ hn0 hi hp]
    | succ a =>
      simp only [encA, List.set_cons_succ]
      rw [show ((a + 1 : Nat) : Int) = (a : Int) + 1 by omega, nextF_succ hg (by simpa using ha), geti_cons_succ, nextF_enc hg (fun x hx => hn x (List.mem_cons_of_mem _ hx)) (by simpa using hl) (by simpa using ha)]

/-- How often letter 'a' occurs. -/
def cnt (w : List UInt8) (a : Nat) : Int := ((w.countP fun c => c.toNat == 97 + a : Nat) : Int)
def cnts (k : Nat) (w : List UInt8) : List Int := (List.range k).map (cnt w)

theorem cnts_length (k : Nat) (w : List UInt8) : (cnts k w).length = k := by simp [cnts]
theorem cnts_nonneg (k : Nat) (w : List UInt8) : ∀ n ∈ cnts k w, 0 ≤ n := by
  intro n hn
  simp only [cnts, List.mem_map] at hn
  obtain ⟨a, _, rfl⟩ := hn
  unfold cnt; omega
theorem cnts_snoc {k : Nat} {w : List UInt8} {c : UInt8} {a : Nat} (hc : c.toNat = 97 + a) : cnts k (w ++ [c]) = (cnts k w).set a (geti (cnts k w) a + 1) := by
  apply List.ext_getElem
  · simp [cnts]
  · intro j h1 h2
    have hj : j < k := by simpa [cnts] using h1
    rw [List.getElem_set]
    by_cases e : a = j
    · subst e
      rw [if_pos rfl]
      simp [cnts, cnt, geti, hj, List.countP_append, hc]
    · rw [if_neg e]
      have : ¬ c.toNat = 97 + j := by omega
      simp [cnts, cnt, List.countP_append, this]

theorem encA_nil : ∀ {idx per : List Int} {k : Nat}, Good idx per → encA idx per (List.replicate k 0) = 0
  | [], per, k, h => by simp [encA]
  | i :: is, [], k, h => by have := h.1; simp at this
  | i :: is, p :: ps, 0, h => by simp [encA]
  | i :: is, p :: ps, k + 1, h => by
    obtain ⟨hg, hi, hp⟩ := h.tail
    rw [List.replicate_succ]
    simp only [encA]
    rw [encA_nil hg]
    unfold asF
    split
    · simp
    · rw [show i = 0 by omega]; simp

theorem cnts_nil (k : Nat) : cnts k [] = List.replicate k 0 := by
  apply List.ext_getElem <;> simp [cnts, cnt]

/-- What counters are worth. -/
def validF (idx per : List Int) (acc : Nat) : Int :=
  if idx.length < 1 ∨ 6 < idx.length then 1
  else if per.length ≠ idx.length then 22
  else if ∃ i, i < idx.length ∧ (geti idx (i : Nat) < 0 ∨ geti per (i : Nat) < 1) then 22
  else if 2000 < prod (mods idx per) then 3
  else if (acc : Int) ≠ prod (mods idx per) then 22 else 0

theorem validF_good {idx per : List Int} {acc : Nat} (h : validF idx per acc = 0) : Good idx per ∧ 1 ≤ idx.length ∧ idx.length ≤ 6 ∧ prod (mods idx per) ≤ 2000 ∧ (acc : Int) = prod (mods idx per) := by
  unfold validF at h
  split at h
  · simp at h
  · split at h
    · simp at h
    · split at h
      · simp at h
      · split at h
        · simp at h
        · split at h
          · simp at h
          · rename_i h1 h2 h3 h4 h5
            refine ⟨⟨by omega, fun n hn => ?_, fun n hn => ?_⟩, by omega, by omega, by omega, by omega⟩
            · obtain ⟨j, hj, rfl⟩ := List.getElem_of_mem hn
              refine Int.not_lt.1 fun hlt => h3 ⟨j, hj, .inl ?_⟩
              simpa [geti, hj] using hlt
            · obtain ⟨j, hj, rfl⟩ := List.getElem_of_mem hn
              refine Int.not_lt.1 fun hlt => h3 ⟨j, by omega, .inr ?_⟩
              simpa [geti, hj] using hlt

theorem good_of {idx per : List Int} (hl : per.length = idx.length) (h : ∀ i, i < idx.length → 0 ≤ geti idx (i : Nat) ∧ 1 ≤ geti per (i : Nat)) : Good idx per := by
  refine ⟨hl.symm, fun n hn => ?_, fun n hn => ?_⟩
  · obtain ⟨j, hj, rfl⟩ := List.getElem_of_mem hn
    have := (h j hj).1
    simpa [geti, hj] using this
  · obtain ⟨j, hj, rfl⟩ := List.getElem_of_mem hn
    have := (h j (by omega)).2
    simpa [geti, hj] using this

def matchF (idx per : List Int) (acc : List Bool) (w : List UInt8) : Bool :=
  decide (validF idx per acc.length = 0) && decide (WordOk w idx.length) && getb acc (encA idx per (cnts idx.length w))


/-- Two words with the same letters. -/
def SameW (xs ys : List UInt8) : Prop := xs.length = ys.length ∧ ∀ p : UInt8 → Bool, xs.countP p = ys.countP p

theorem SameW.match_eq {xs ys : List UInt8} (h : SameW xs ys) (idx per : List Int) (acc : List Bool) : matchF idx per acc xs = matchF idx per acc ys := by
  have hc : cnts idx.length xs = cnts idx.length ys := by
    unfold cnts
    refine List.map_congr_left fun a _ => ?_
    unfold cnt
    rw [h.2]
  have hall : ∀ k : Int, (∀ c ∈ xs, 97 ≤ c.toNat ∧ (c.toNat : Int) - 97 < k) ↔ (∀ c ∈ ys, 97 ≤ c.toNat ∧ (c.toNat : Int) - 97 < k) := fun k => by
    have e : ∀ zs : List UInt8, (∀ c ∈ zs, 97 ≤ c.toNat ∧ (c.toNat : Int) - 97 < k) ↔ zs.countP (fun c => decide (97 ≤ c.toNat ∧ (c.toNat : Int) - 97 < k)) = zs.length := fun zs => by
      rw [List.countP_eq_length]; simp
    rw [e, e, h.2, h.1]
  have hw : WordOk xs idx.length ↔ WordOk ys idx.length := by
    unfold WordOk
    rw [h.1, hall]
  unfold matchF
  rw [hc, decide_eq_decide.2 hw]

theorem SameW.swap {xs ys : List UInt8} (h : SameW xs ys) {i j : Int} (hi : 0 ≤ i ∧ i < xs.length) (hj : 0 ≤ j ∧ j < xs.length) : SameW ((xs.set i.toNat (getu xs j)).set j.toNat (getu xs i)) ys := by
  refine ⟨by simpa using h.1, fun p => ?_⟩
  rw [← h.2]
  have hi' : i.toNat < xs.length := by omega
  have hj' : j.toNat < xs.length := by omega
  rw [List.countP_set (by simpa using hj'), List.countP_set hi']
  have e1 : getu xs i = xs[i.toNat] := by simp [getu, hi']
  have e2 : getu xs j = xs[j.toNat] := by simp [getu, hj']
  rw [e1, e2, List.getElem_set]
  have c1 : xs.countP p ≥ if p xs[i.toNat] = true then 1 else 0 := by
    split
    · rename_i hp; exact List.countP_pos_iff.2 ⟨_, List.getElem_mem hi', hp⟩
    · omega
  have c2 : xs.countP p ≥ if p xs[j.toNat] = true then 1 else 0 := by
    split
    · rename_i hp; exact List.countP_pos_iff.2 ⟨_, List.getElem_mem hj', hp⟩
    · omega
  by_cases e : i.toNat = j.toNat
  · simp only [e, if_true]
    simp only [e] at c1
    omega
  · rw [if_neg e]
    generalize (if p xs[i.toNat] = true then 1 else 0) = a at *
    generalize (if p xs[j.toNat] = true then 1 else 0) = b at *
    omega
end Go.Co
end

section
set_option linter.unusedVariables false
set_option maxRecDepth 100000
namespace Go.EvK
open Go Go.Ev Go.EvW Go.Co
theorem counting_size_ok {s : St} {P : Nat → Prop} {vI vP : Value} {idx per : List Int} (hI : IsInts s P vI idx) (hP : IsInts s P vP per) (hg : Good idx per) (h6 : idx.length ≤ 6) :
    Wf kprog n_counting_size [vI, vP] s (fun v s' => v = .int .i64 (sizeL idx per 1) ∧ s = s') := by
  obtain ⟨hl, hgi, hgp⟩ := hg
  refine Wf.of p_counting_size rfl ?_
  unfold c_counting_size
  refine Wc.seq ?_
  refine Wc.reg ?_
  refine Wo.op (Step.move (by conv => lhs; whnf)) ?_
  refine Wo.nil ?_
  refine Wc.seq ?_
  refine Wc.reg ?_
  refine Wo.op (Step.move (by conv => lhs; whnf)) ?_
  refine Wo.nil ?_
  refine Wc.seq ?_
  refine Wc.seq ?_
  refine Wc.reg ?_
  refine Wo.op (Step.move (by conv => lhs; whnf)) ?_
  refine Wo.op (Step.lenSl rfl (by assumption)) ?_
  refine Wo.op (Step.move (by conv => lhs; whnf)) ?_
  refine Wo.nil ?_
  refine Wc.mid (fun ρ' s' => ∃ (n : Int), (ρ' 5 = .int .i64 n) ∧ (s' = s) ∧ (n = sizeL idx per 1)) (Wc.block (Wc.loop (fun m ρ' s' => ∃ (i : Nat) (n : Int), (ρ' 0 = vI) ∧ (ρ' 1 = vP) ∧ (ρ' 8 = .int .i64 ((idx.length : Nat) : Int)) ∧ (ρ' 9 = .int .i64 ((i : Nat) : Int)) ∧ (ρ' 5 = .int .i64 n) ∧ (m = idx.length - i) ∧ (s' = s) ∧ (i ≤ idx.length) ∧ (0 ≤ n ∧ n ≤ 2001) ∧ (sizeL (idx.drop i) (per.drop i) n = sizeL idx per 1)) ?_ ?_)) ?_
  · exact ⟨_, 0, 1, rfl, rfl, rfl, rfl, rfl, rfl, rfl, by omega, by omega, rfl⟩
  · intro m ρ0 s0 hI
    obtain ⟨i, n, e0, e1, e8, e9, e5, hm, hs, hi, hn, hz⟩ := hI
    refine Wc.fix (k := 0) e0 ?_
    refine Wc.fix (k := 1) e1 ?_
    refine Wc.fix (k := 8) e8 ?_
    refine Wc.fix (k := 9) e9 ?_
    refine Wc.fix (k := 5) e5 ?_
    subst hs
    refine Wc.seq ?_
    refine Wc.reg ?_
    have hb1 : i < idx.length → 0 ≤ geti idx i := fun h => hgi _ (geti_mem (by omega) (by omega))
    have hb2 : i < idx.length → 1 ≤ geti per i := fun h => hgp _ (geti_mem (by omega) (by omega))
    refine Wo.op (Step.lss rfl rfl) ?_
    refine Wo.nil ?_
    refine Wc.seq ?_
    refine Wc.ite rfl (fun hc10 => ?_) (fun hc10 => ?_)
    · skip
      refine Wc.skip ?_
      refine Wc.seq ?_
      refine Wc.block ?_
      refine Wc.seq ?_
      refine Wc.reg ?_
      refine Wo.op (Step.move (by conv => lhs; whnf)) ?_
      refine Wo.op (Step.move (by conv => lhs; whnf)) ?_
      refine Wo.nil ?_
      refine Wc.seq ?_
      refine Wc.seq ?_
      refine Wc.reg ?_
      refine Wo.op (Step.move (by conv => lhs; whnf)) ?_
      refine Wo.op (Step.move (by conv => lhs; whnf)) ?_
      first | refine Wo.idxI rfl (by assumption) rfl (by omega) (by omega) ?_ | refine Wo.idxB rfl (by assumption) rfl (by omega) (by omega) ?_ | refine Wo.idxU rfl (by assumption) rfl (by omega) (by omega) ?_
      intro p14
      refine Wo.op (Step.gtr (b := 2000) rfl rfl) ?_
      refine Wo.op (Step.move (by conv => lhs; whnf)) ?_
      refine Wo.cases (j := 17) rfl (fun hc17 => ?_) (fun hc17 => ?_)
      · skip
        refine Wo.off rfl rfl ?_
        refine Wo.off rfl rfl ?_
        refine Wo.off rfl rfl ?_
        refine Wo.off rfl rfl ?_
        refine Wo.off rfl rfl ?_
        refine Wo.op (Step.pickT rfl (by conv => lhs; whnf)) ?_
        refine Wo.nil ?_
        refine Wc.yes rfl ?_
        refine Wc.seq ?_
        refine Wc.reg ?_
        refine Wo.op (Step.move (by conv => lhs; whnf)) ?_
        refine Wo.nil ?_
        refine Wc.ret ⟨_, Rs.tmp (by conv => lhs; whnf) (Rs.nil), ?_⟩
        exact ⟨by rw [← hz, drop_geti (xs := idx) (i := i) (by omega), drop_geti (xs := per) (i := i) (by omega)]; simp only [sizeL]; rw [if_pos (by omega)]; rfl, rfl⟩
      · skip
        refine Wo.on rfl ?_
        refine Wo.op (Step.move (by conv => lhs; whnf)) ?_
        refine Wo.on rfl ?_
        refine Wo.op (Step.move (by conv => lhs; whnf)) ?_
        refine Wo.on2 rfl (by decide) ?_
        first | refine Wo.idxI rfl (by assumption) rfl (by omega) (by omega) ?_ | refine Wo.idxB rfl (by assumption) rfl (by omega) (by omega) ?_ | refine Wo.idxU rfl (by assumption) rfl (by omega) (by omega) ?_
        intro p20
        refine Wo.on rfl ?_
        refine Wo.op (Step.gtr (b := 2000) rfl rfl) ?_
        refine Wo.op (Step.pickF rfl (by conv => lhs; whnf)) ?_
        refine Wo.nil ?_
        refine Wc.ite rfl (fun hc23 => ?_) (fun hc23 => ?_)
        · skip
          refine Wc.seq ?_
          refine Wc.reg ?_
          refine Wo.op (Step.move (by conv => lhs; whnf)) ?_
          refine Wo.nil ?_
          refine Wc.ret ⟨_, Rs.tmp (by conv => lhs; whnf) (Rs.nil), ?_⟩
          exact ⟨by rw [← hz, drop_geti (xs := idx) (i := i) (by omega), drop_geti (xs := per) (i := i) (by omega)]; simp only [sizeL]; rw [if_pos (by omega)]; rfl, rfl⟩
        · skip
          refine Wc.skip ?_
          refine Wc.draw ?_
          refine Wd.pure rfl (Step.move (by conv => lhs; whnf)) ?_
          refine Wd.pure rfl (Step.move (by conv => lhs; whnf)) ?_
          refine Wd.pure rfl (Step.move (by conv => lhs; whnf)) ?_
          first | refine Wd.idxI rfl (by assumption) rfl (by omega) (by omega) ?_ | refine Wd.idxB rfl (by assumption) rfl (by omega) (by omega) ?_ | refine Wd.idxU rfl (by assumption) rfl (by omega) (by omega) ?_
          intro p27
          refine Wd.pure rfl (Step.move (by conv => lhs; whnf)) ?_
          refine Wd.pure rfl (Step.move (by conv => lhs; whnf)) ?_
          first | refine Wd.idxI rfl (by assumption) rfl (by omega) (by omega) ?_ | refine Wd.idxB rfl (by assumption) rfl (by omega) (by omega) ?_ | refine Wd.idxU rfl (by assumption) rfl (by omega) (by omega) ?_
          intro p31
          refine Wd.pure rfl (Step.add rfl rfl (by omega)) ?_
          have hm1 := mul_bnd (a := n) (b := geti idx i + geti per i) (A := 2001) (B := 4000) hn (by omega)
          refine Wd.pure rfl (Step.mul rfl rfl (by omega)) ?_
          refine Wd.pure rfl (Step.min (b := 2001) rfl rfl) ?_
          refine Wd.pure rfl (Step.move (by conv => lhs; whnf)) ?_
          refine Wd.nil ?_
          refine Wc.reg ?_
          refine Wo.op (Step.add (b := 1) rfl rfl (by omega)) ?_
          refine Wo.op (Step.move (by conv => lhs; whnf)) ?_
          refine Wo.nil ?_
          refine ⟨_, ?_, i + 1, _, rfl, rfl, rfl, rfl, rfl, rfl, rfl, by omega, by omega, by rw [← hz, drop_geti (xs := idx) (i := i) (by omega), drop_geti (xs := per) (i := i) (by omega)]; simp only [sizeL]; rw [if_neg (by omega)]⟩
          omega
    · skip
      refine Wc.exit ?_
      refine .inl ⟨rfl, ?_⟩
      exact ⟨n, rfl, rfl, by rw [← hz, List.drop_eq_nil_of_le (show idx.length ≤ i by omega)]; rfl⟩
  · intro ρx0 sx0 hP
    obtain ⟨n, e5, hs, hz⟩ := hP
    show Wc _ _ _ _ _ _ _
    refine Wc.fix (k := 5) e5 ?_
    subst hs
    refine Wc.seq ?_
    refine Wc.reg ?_
    refine Wo.op (Step.move (by conv => lhs; whnf)) ?_
    refine Wo.op (Step.move (by conv => lhs; whnf)) ?_
    refine Wo.nil ?_
    refine Wc.ret ⟨_, Rs.tmp (by conv => lhs; whnf) (Rs.nil), ?_⟩
    exact ⟨by rw [hz]; rfl, rfl⟩
theorem word_Valid_ok {s : St} {w : List UInt8} {k : Int} (hk : -9223372036854775808 ≤ k ∧ k < 9223372036854775808) (hw : w.length < 9223372036854775807) :
    Wf kprog n_word_Valid [.string ⟨⟨w⟩⟩, .int .i64 k] s (fun v s' => v = .bool (decide (WordOk w k)) ∧ s = s') := by
  refine Wf.of p_word_Valid rfl ?_
  unfold c_word_Valid
  refine Wc.seq ?_
  refine Wc.reg ?_
  refine Wo.op (Step.move (by conv => lhs; whnf)) ?_
  refine Wo.nil ?_
  refine Wc.seq ?_
  refine Wc.seq ?_
  refine Wc.reg ?_
  refine Wo.op (Step.move (by conv => lhs; whnf)) ?_
  refine Wo.op (Step.lss (b := 1) rfl rfl) ?_
  refine Wo.op (Step.move (by conv => lhs; whnf)) ?_
  refine Wo.cases (j := 8) rfl (fun hc8 => ?_) (fun hc8 => ?_)
  · skip
    refine Wo.off rfl rfl ?_
    refine Wo.off rfl rfl ?_
    refine Wo.op (Step.pickT rfl (by conv => lhs; whnf)) ?_
    refine Wo.op (Step.move (by conv => lhs; whnf)) ?_
    refine Wo.off rfl rfl ?_
    refine Wo.off rfl rfl ?_
    refine Wo.off rfl rfl ?_
    refine Wo.op (Step.pickT rfl (by conv => lhs; whnf)) ?_
    refine Wo.nil ?_
    refine Wc.yes rfl ?_
    refine Wc.seq ?_
    refine Wc.reg ?_
    refine Wo.op (Step.move (by conv => lhs; whnf)) ?_
    refine Wo.nil ?_
    refine Wc.ret ⟨_, Rs.tmp (by conv => lhs; whnf) (Rs.nil), ?_⟩
    exact ⟨congrArg Value.bool (decide_eq_false (fun h => by have := h.1; omega)).symm, rfl⟩
  · skip
    refine Wo.on rfl ?_
    refine Wo.op (Step.move (by conv => lhs; whnf)) ?_
    refine Wo.on rfl ?_
    refine Wo.op (Step.gtr (b := 6) rfl rfl) ?_
    refine Wo.op (Step.pickF rfl (by conv => lhs; whnf)) ?_
    refine Wo.op (Step.move (by conv => lhs; whnf)) ?_
    refine Wo.cases (j := 12) rfl (fun hc12 => ?_) (fun hc12 => ?_)
    · skip
      refine Wo.off rfl rfl ?_
      refine Wo.off rfl rfl ?_
      refine Wo.off rfl rfl ?_
      refine Wo.op (Step.pickT rfl (by conv => lhs; whnf)) ?_
      refine Wo.nil ?_
      refine Wc.yes rfl ?_
      refine Wc.seq ?_
      refine Wc.reg ?_
      refine Wo.op (Step.move (by conv => lhs; whnf)) ?_
      refine Wo.nil ?_
      refine Wc.ret ⟨_, Rs.tmp (by conv => lhs; whnf) (Rs.nil), ?_⟩
      exact ⟨congrArg Value.bool (decide_eq_false (fun h => by have := h.2.1; omega)).symm, rfl⟩
    · skip
      refine Wo.on rfl ?_
      refine Wo.op (Step.move (by conv => lhs; whnf)) ?_
      refine Wo.on rfl ?_
      refine Wo.op (Step.lenStrG rfl) ?_
      refine Wo.on rfl ?_
      refine Wo.op (Step.gtr (b := 2048) rfl rfl) ?_
      refine Wo.op (Step.pickF rfl (by conv => lhs; whnf)) ?_
      refine Wo.nil ?_
      refine Wc.ite rfl (fun hc16 => ?_) (fun hc16 => ?_)
      · skip
        refine Wc.seq ?_
        refine Wc.reg ?_
        refine Wo.op (Step.move (by conv => lhs; whnf)) ?_
        refine Wo.nil ?_
        refine Wc.ret ⟨_, Rs.tmp (by conv => lhs; whnf) (Rs.nil), ?_⟩
        exact ⟨congrArg Value.bool (decide_eq_false (fun h => by have := h.2.2.1; omega)).symm, rfl⟩
      · skip
        refine Wc.skip ?_
        refine Wc.seq ?_
        refine Wc.seq ?_
        refine Wc.reg ?_
        refine Wo.op (Step.move (by conv => lhs; whnf)) ?_
        refine Wo.nil ?_
        refine Wc.mid (fun ρ' s' => (s' = s) ∧ (WordOk w k)) (Wc.block (Wc.loop (fun m ρ' s' => ∃ (i : Nat), (ρ' 0 = .string ⟨⟨w⟩⟩) ∧ (ρ' 1 = .int .i64 k) ∧ (ρ' 5 = .int .i64 ((i : Nat) : Int)) ∧ (m = w.length - i) ∧ (s' = s) ∧ (i ≤ w.length) ∧ (∀ c ∈ w.take i, 97 ≤ c.toNat ∧ (c.toNat : Int) - 97 < k)) ?_ ?_)) ?_
        · exact ⟨_, 0, rfl, rfl, rfl, rfl, rfl, by omega, by simp⟩
        · intro m ρ0 s0 hI
          obtain ⟨i, e0, e1, e5, hm, hs, hi, hz⟩ := hI
          refine Wc.fix (k := 0) e0 ?_
          refine Wc.fix (k := 1) e1 ?_
          refine Wc.fix (k := 5) e5 ?_
          subst hs
          have hg1 := getu_lt w i
          refine Wc.seq ?_
          refine Wc.seq ?_
          refine Wc.reg ?_
          refine Wo.op (Step.move (by conv => lhs; whnf)) ?_
          refine Wo.op (Step.move (by conv => lhs; whnf)) ?_
          refine Wo.op (Step.lenStrG rfl) ?_
          refine Wo.op (Step.lss rfl rfl) ?_
          refine Wo.nil ?_
          refine Wc.ite rfl (fun hc20 => ?_) (fun hc20 => ?_)
          · skip
            refine Wc.skip ?_
            refine Wc.seq ?_
            refine Wc.block ?_
            refine Wc.seq ?_
            refine Wc.reg ?_
            refine Wo.op (Step.move (by conv => lhs; whnf)) ?_
            refine Wo.op (Step.move (by conv => lhs; whnf)) ?_
            refine Wo.op (Step.idxStrG rfl rfl (by omega) (by omega)) ?_
            refine Wo.op (Step.lss (b := 97) rfl rfl) ?_
            refine Wo.op (Step.move (by conv => lhs; whnf)) ?_
            refine Wo.cases (j := 27) rfl (fun hc27 => ?_) (fun hc27 => ?_)
            · skip
              refine Wo.off rfl rfl ?_
              refine Wo.off rfl rfl ?_
              refine Wo.off rfl rfl ?_
              refine Wo.off rfl rfl ?_
              refine Wo.off rfl rfl ?_
              refine Wo.off rfl rfl ?_
              refine Wo.off rfl rfl ?_
              refine Wo.op (Step.pickT rfl (by conv => lhs; whnf)) ?_
              refine Wo.nil ?_
              refine Wc.yes rfl ?_
              refine Wc.seq ?_
              refine Wc.reg ?_
              refine Wo.op (Step.move (by conv => lhs; whnf)) ?_
              refine Wo.nil ?_
              refine Wc.ret ⟨_, Rs.tmp (by conv => lhs; whnf) (Rs.nil), ?_⟩
              exact ⟨congrArg Value.bool (decide_eq_false (fun h => by have := h.2.2.2 _ (getu_mem (i := i) (by omega) (by omega)); omega)).symm, rfl⟩
            · skip
              refine Wo.on rfl ?_
              refine Wo.op (Step.move (by conv => lhs; whnf)) ?_
              refine Wo.on rfl ?_
              refine Wo.op (Step.move (by conv => lhs; whnf)) ?_
              refine Wo.on rfl ?_
              refine Wo.op (Step.idxStrG rfl rfl (by omega) (by omega)) ?_
              refine Wo.on rfl ?_
              refine Wo.op (Step.sub8 (b := 97) rfl rfl (by omega)) ?_
              refine Wo.on rfl ?_
              refine Wo.op (Step.conv64 rfl (by omega)) ?_
              refine Wo.on rfl ?_
              refine Wo.op (Step.move (by conv => lhs; whnf)) ?_
              refine Wo.on rfl ?_
              refine Wo.op (Step.geq rfl rfl) ?_
              refine Wo.op (Step.pickF rfl (by conv => lhs; whnf)) ?_
              refine Wo.nil ?_
              refine Wc.ite rfl (fun hc35 => ?_) (fun hc35 => ?_)
              · skip
                refine Wc.seq ?_
                refine Wc.reg ?_
                refine Wo.op (Step.move (by conv => lhs; whnf)) ?_
                refine Wo.nil ?_
                refine Wc.ret ⟨_, Rs.tmp (by conv => lhs; whnf) (Rs.nil), ?_⟩
                exact ⟨congrArg Value.bool (decide_eq_false (fun h => by have := h.2.2.2 _ (getu_mem (i := i) (by omega) (by omega)); omega)).symm, rfl⟩
              · skip
                refine Wc.skip ?_
                refine Wc.reg ?_
                refine Wo.op (Step.move (by conv => lhs; whnf)) ?_
                refine Wo.op (Step.add (b := 1) rfl rfl (by omega)) ?_
                refine Wo.op (Step.move (by conv => lhs; whnf)) ?_
                refine Wo.nil ?_
                refine ⟨_, ?_, i + 1, rfl, rfl, rfl, rfl, rfl, by omega, by intro c hc; rw [take_getu (by omega), List.mem_append, List.mem_singleton] at hc; rcases hc with hc | rfl; exact hz c hc; omega⟩
                omega
          · skip
            refine Wc.exit ?_
            refine .inl ⟨rfl, ?_⟩
            exact ⟨rfl, ⟨by omega, by omega, by omega, by rw [List.take_of_length_le (by omega)] at hz; exact hz⟩⟩
        · intro ρx0 sx0 hP
          obtain ⟨hs, hz⟩ := hP
          show Wc _ _ _ _ _ _ _
          subst hs
          refine Wc.seq ?_
          refine Wc.reg ?_
          refine Wo.op (Step.move (by conv => lhs; whnf)) ?_
          refine Wo.nil ?_
          refine Wc.ret ⟨_, Rs.tmp (by conv => lhs; whnf) (Rs.nil), ?_⟩
          exact ⟨congrArg Value.bool (decide_eq_true hz).symm, rfl⟩
theorem counting_next_ok {s : St} {P : Nat → Prop} {vI vP vA : Value} {idx per : List Int} {at' a : Int} (hI : IsInts s P vI idx) (hP : IsInts s P vP per) (hg : Good idx per) (h6 : idx.length ≤ 6) (hp : prod (mods idx per) ≤ 2000) (ha : 0 ≤ a ∧ a < idx.length) (hat : 0 ≤ at' ∧ at' < prod (mods idx per)) :
    Wf kprog n_counting_next [.agg ⟨[vI, vP, vA]⟩, .int .i64 at', .int .i64 a] s (fun v s' => v = .int .i64 (nextF idx per at' a) ∧ Pur s s') := by
  obtain ⟨hl, hgi, hgp⟩ := id hg
  have hmb : ∀ b : Int, 0 ≤ b → b < idx.length → 0 ≤ geti idx b ∧ 1 ≤ geti per b := fun b h0 h1 => ⟨hgi _ (geti_mem h0 h1), hgp _ (geti_mem h0 (by omega))⟩
  have hdr : ∀ b : Int, 0 ≤ b → b < idx.length → (mods idx per).drop b.toNat = (geti idx b + geti per b) :: (mods idx per).drop (b + 1).toNat := fun b h0 h1 => by
    have := mods_drop hg (i := b.toNat) (by omega)
    rw [this, show ((b.toNat : Nat) : Int) = b by omega, show (b + 1).toNat = b.toNat + 1 by omega]
  refine Wf.of p_counting_next rfl ?_
  unfold c_counting_next
  refine Wc.seq ?_
  refine Wc.reg ?_
  refine Wo.box (by conv => lhs; whnf) ?_
  intro s1 e1 o3 n3
  have hI1 := hI.pur e1
  have hP1 := hP.pur e1
  refine Wo.op (Step.move (by conv => lhs; whnf)) ?_
  refine Wo.nil ?_
  refine Wc.seq ?_
  refine Wc.reg ?_
  refine Wo.op (Step.move (by conv => lhs; whnf)) ?_
  refine Wo.nil ?_
  refine Wc.seq ?_
  refine Wc.seq ?_
  refine Wc.reg ?_
  refine Wo.op (Step.faddr rfl) ?_
  refine Wo.op (Step.load rfl (by first | assumption | exact Own.row (by assumption)) (by rfl)) ?_
  refine Wo.op (Step.lenSl rfl (by assumption)) ?_
  refine Wo.op (Step.sub (b := 1) rfl rfl (by omega)) ?_
  refine Wo.op (Step.move (by conv => lhs; whnf)) ?_
  refine Wo.nil ?_
  refine Wc.mid (fun ρ' s' => ∃ (u : Int), (ρ' 1 = .int .i64 at') ∧ (ρ' 2 = .int .i64 a) ∧ (ρ' 3 = ptrV s.nextId 0) ∧ (ρ' 7 = .int .i64 u) ∧ (s' = s1) ∧ (u = prod ((mods idx per).drop (a + 1).toNat))) (Wc.block (Wc.loop (fun m ρ' s' => ∃ (b : Int) (u : Int), (ρ' 1 = .int .i64 at') ∧ (ρ' 2 = .int .i64 a) ∧ (ρ' 3 = ptrV s.nextId 0) ∧ (ρ' 7 = .int .i64 u) ∧ (ρ' 8 = .int .i64 b) ∧ (m = (b + 1).toNat) ∧ (s' = s1) ∧ (a ≤ b ∧ b < idx.length) ∧ (u = prod ((mods idx per).drop (b + 1).toNat))) ?_ ?_)) ?_
  · exact ⟨_, _, 1, rfl, rfl, rfl, rfl, rfl, rfl, rfl, by omega, by rw [show (((idx.length : Nat) : Int) - 1 + 1).toNat = idx.length by omega, List.drop_eq_nil_of_le (by rw [mods_length hg]; omega)]; rfl⟩
  · intro m ρ0 s0 hI
    obtain ⟨b, u, e1, e2, e3, e7, e8, hm, hs, hb, hu⟩ := hI
    refine Wc.fix (k := 1) e1 ?_
    refine Wc.fix (k := 2) e2 ?_
    refine Wc.fix (k := 3) e3 ?_
    refine Wc.fix (k := 7) e7 ?_
    refine Wc.fix (k := 8) e8 ?_
    subst hs
    have hu0 := prod_drop_le hg (b + 1).toNat
    rw [← hu] at hu0
    refine Wc.seq ?_
    refine Wc.seq ?_
    refine Wc.reg ?_
    refine Wo.op (Step.move (by conv => lhs; whnf)) ?_
    refine Wo.op (Step.move (by conv => lhs; whnf)) ?_
    refine Wo.op (Step.gtr rfl rfl) ?_
    refine Wo.nil ?_
    refine Wc.ite rfl (fun hc16 => ?_) (fun hc16 => ?_)
    · skip
      refine Wc.skip ?_
      refine Wc.seq ?_
      refine Wc.block ?_
      refine Wc.draw ?_
      have hbm := hmb b (by omega) (by omega)
      have hdb : prod ((mods idx per).drop b.toNat) ≤ prod (mods idx per) := (prod_drop_le hg b.toNat).2
      rw [hdr b (by omega) (by omega)] at hdb
      simp only [prod] at hdb
      rw [← hu] at hdb
      have hmm : geti idx b + geti per b ≤ 2000 := by
        have := Int.mul_le_mul_of_nonneg_left hu0.1 (show 0 ≤ geti idx b + geti per b by omega)
        omega
      have hmu : u * (geti idx b + geti per b) = (geti idx b + geti per b) * u := Int.mul_comm ..
      have hmu0 : 0 ≤ (geti idx b + geti per b) * u := Int.mul_nonneg (by omega) (by omega)
      refine Wd.pure rfl (Step.move (by conv => lhs; whnf)) ?_
      refine Wd.pure rfl (Step.faddr rfl) ?_
      refine Wd.read rfl (Step.load rfl (by first | assumption | exact Own.row (by assumption)) (by rfl)) ?_
      refine Wd.pure rfl (Step.move (by conv => lhs; whnf)) ?_
      first | refine Wd.idxI rfl (by assumption) rfl (by omega) (by omega) ?_ | refine Wd.idxB rfl (by assumption) rfl (by omega) (by omega) ?_ | refine Wd.idxU rfl (by assumption) rfl (by omega) (by omega) ?_
      intro p23
      refine Wd.pure rfl (Step.faddr rfl) ?_
      refine Wd.read rfl (Step.load rfl (by first | assumption | exact Own.row (by assumption)) (by rfl)) ?_
      refine Wd.pure rfl (Step.move (by conv => lhs; whnf)) ?_
      first | refine Wd.idxI rfl (by assumption) rfl (by omega) (by omega) ?_ | refine Wd.idxB rfl (by assumption) rfl (by omega) (by omega) ?_ | refine Wd.idxU rfl (by assumption) rfl (by omega) (by omega) ?_
      intro p28
      refine Wd.pure rfl (Step.add rfl rfl (by omega)) ?_
      refine Wd.pure rfl (Step.mul rfl rfl (by omega)) ?_
      refine Wd.pure rfl (Step.move (by conv => lhs; whnf)) ?_
      refine Wd.nil ?_
      refine Wc.reg ?_
      refine Wo.op (Step.move (by conv => lhs; whnf)) ?_
      refine Wo.op (Step.sub (b := 1) rfl rfl (by omega)) ?_
      refine Wo.op (Step.move (by conv => lhs; whnf)) ?_
      refine Wo.nil ?_
      refine ⟨_, ?_, b - 1, _, rfl, rfl, rfl, rfl, rfl, rfl, rfl, by omega, by rw [show (b - 1 + 1).toNat = b.toNat by omega, hdr b (by omega) (by omega), hu]; simp only [prod]; rw [Int.mul_comm]⟩
      omega
    · skip
      refine Wc.exit ?_
      refine .inl ⟨rfl, ?_⟩
      exact ⟨u, rfl, rfl, rfl, rfl, rfl, by rw [hu, show b = a by omega]⟩
  · intro ρx0 sx0 hP
    obtain ⟨u, e1, e2, e3, e7, hs, hu⟩ := hP
    show Wc _ _ _ _ _ _ _
    refine Wc.fix (k := 1) e1 ?_
    refine Wc.fix (k := 2) e2 ?_
    refine Wc.fix (k := 3) e3 ?_
    refine Wc.fix (k := 7) e7 ?_
    subst hs
    have hu1 := prod_drop_le hg (a + 1).toNat
    have ham := hmb a ha.1 ha.2
    have hq0 : 0 ≤ at' / u := Int.ediv_nonneg hat.1 (by omega)
    have hq1 : at' / u ≤ at' := Int.ediv_le_self u hat.1
    have hr0 := Int.emod_nonneg (at' / u) (show geti idx a + geti per a ≠ 0 by omega)
    have hr1 := Int.emod_lt_of_pos (at' / u) (show 0 < geti idx a + geti per a by omega)
    have hda : prod ((mods idx per).drop a.toNat) ≤ prod (mods idx per) := (prod_drop_le hg a.toNat).2
    rw [hdr a ha.1 ha.2] at hda
    simp only [prod] at hda
    rw [← hu] at hda hu1
    have hmm : geti idx a + geti per a ≤ 2000 := by
      have := Int.mul_le_mul_of_nonneg_left hu1.1 (show 0 ≤ geti idx a + geti per a by omega)
      omega
    refine Wc.seq ?_
    refine Wc.draw ?_
    refine Wd.pure rfl (Step.move (by conv => lhs; whnf)) ?_
    refine Wd.pure rfl (Step.move (by conv => lhs; whnf)) ?_
    refine Wd.pure rfl (Step.quo rfl rfl (by omega)) ?_
    refine Wd.pure rfl (Step.faddr rfl) ?_
    refine Wd.read rfl (Step.load rfl (by first | assumption | exact Own.row (by assumption)) (by rfl)) ?_
    refine Wd.pure rfl (Step.move (by conv => lhs; whnf)) ?_
    first | refine Wd.idxI rfl (by assumption) rfl (by omega) (by omega) ?_ | refine Wd.idxB rfl (by assumption) rfl (by omega) (by omega) ?_ | refine Wd.idxU rfl (by assumption) rfl (by omega) (by omega) ?_
    intro p38
    refine Wd.pure rfl (Step.faddr rfl) ?_
    refine Wd.read rfl (Step.load rfl (by first | assumption | exact Own.row (by assumption)) (by rfl)) ?_
    refine Wd.pure rfl (Step.move (by conv => lhs; whnf)) ?_
    first | refine Wd.idxI rfl (by assumption) rfl (by omega) (by omega) ?_ | refine Wd.idxB rfl (by assumption) rfl (by omega) (by omega) ?_ | refine Wd.idxU rfl (by assumption) rfl (by omega) (by omega) ?_
    intro p43
    refine Wd.pure rfl (Step.add rfl rfl (by omega)) ?_
    refine Wd.pure rfl (Step.rem rfl rfl (by omega)) ?_
    refine Wd.pure rfl (Step.move (by conv => lhs; whnf)) ?_
    refine Wd.nil ?_
    refine Wc.seq ?_
    refine Wc.seq ?_
    refine Wc.draw ?_
    refine Wd.pure rfl (Step.move (by conv => lhs; whnf)) ?_
    refine Wd.pure rfl (Step.add (b := 1) rfl rfl (by omega)) ?_
    refine Wd.pure rfl (Step.faddr rfl) ?_
    refine Wd.read rfl (Step.load rfl (by first | assumption | exact Own.row (by assumption)) (by rfl)) ?_
    refine Wd.pure rfl (Step.move (by conv => lhs; whnf)) ?_
    first | refine Wd.idxI rfl (by assumption) rfl (by omega) (by omega) ?_ | refine Wd.idxB rfl (by assumption) rfl (by omega) (by omega) ?_ | refine Wd.idxU rfl (by assumption) rfl (by omega) (by omega) ?_
    intro p52
    refine Wd.pure rfl (Step.faddr rfl) ?_
    refine Wd.read rfl (Step.load rfl (by first | assumption | exact Own.row (by assumption)) (by rfl)) ?_
    refine Wd.pure rfl (Step.move (by conv => lhs; whnf)) ?_
    first | refine Wd.idxI rfl (by assumption) rfl (by omega) (by omega) ?_ | refine Wd.idxB rfl (by assumption) rfl (by omega) (by omega) ?_ | refine Wd.idxU rfl (by assumption) rfl (by omega) (by omega) ?_
    intro p57
    refine Wd.pure rfl (Step.add rfl rfl (by omega)) ?_
    refine Wd.pure rfl (Step.eql rfl rfl) ?_
    refine Wd.nil ?_
    refine Wc.ite rfl (fun hc60 => ?_) (fun hc60 => ?_)
    · skip
      refine Wc.seq ?_
      refine Wc.reg ?_
      have hmn := mul_bnd (a := at' / u % (geti idx a + geti per a) - geti idx a) (b := u) (A := 2000) (B := 2000) (by omega) (by omega)
      refine Wo.op (Step.move (by conv => lhs; whnf)) ?_
      refine Wo.op (Step.move (by conv => lhs; whnf)) ?_
      refine Wo.op (Step.faddr rfl) ?_
      refine Wo.op (Step.load rfl (by first | assumption | exact Own.row (by assumption)) (by rfl)) ?_
      refine Wo.op (Step.move (by conv => lhs; whnf)) ?_
      first | refine Wo.idxI rfl (by assumption) rfl (by omega) (by omega) ?_ | refine Wo.idxB rfl (by assumption) rfl (by omega) (by omega) ?_ | refine Wo.idxU rfl (by assumption) rfl (by omega) (by omega) ?_
      intro p66
      refine Wo.op (Step.sub rfl rfl (by omega)) ?_
      refine Wo.op (Step.move (by conv => lhs; whnf)) ?_
      refine Wo.op (Step.mul rfl rfl (by omega)) ?_
      refine Wo.op (Step.sub rfl rfl (by omega)) ?_
      refine Wo.op (Step.move (by conv => lhs; whnf)) ?_
      refine Wo.nil ?_
      refine Wc.ret ⟨_, Rs.tmp (by conv => lhs; whnf) (Rs.nil), ?_⟩
      refine ⟨congrArg (Value.int .i64) ?_, e1⟩
      unfold nextF
      rw [← hu, if_pos hc60]
    · skip
      refine Wc.skip ?_
      refine Wc.seq ?_
      refine Wc.reg ?_
      refine Wo.op (Step.move (by conv => lhs; whnf)) ?_
      refine Wo.op (Step.move (by conv => lhs; whnf)) ?_
      refine Wo.op (Step.add rfl rfl (by omega)) ?_
      refine Wo.op (Step.move (by conv => lhs; whnf)) ?_
      refine Wo.nil ?_
      refine Wc.ret ⟨_, Rs.tmp (by conv => lhs; whnf) (Rs.nil), ?_⟩
      refine ⟨congrArg (Value.int .i64) ?_, e1⟩
      unfold nextF
      rw [← hu, if_neg hc60]
theorem counting_Validate_ok {s : St} {P : Nat → Prop} {vI vP vA : Value} {idx per : List Int} {acc : List Bool} (hI : IsInts s P vI idx) (hP : IsInts s P vP per) (hA : IsBools s P vA acc) :
    Wf kprog n_counting_Validate [.agg ⟨[vI, vP, vA]⟩] s (fun v s' => v = .int .i64 (validF idx per acc.length) ∧ Pur s s') := by
  refine Wf.of p_counting_Validate rfl ?_
  unfold c_counting_Validate
  refine Wc.seq ?_
  refine Wc.reg ?_
  refine Wo.box (by conv => lhs; whnf) ?_
  intro sB1 eB1 oB1 nB1
  have hI1 := hI.pur eB1
  have hP1 := hP.pur eB1
  have hA1 := hA.pur eB1
  refine Wo.op (Step.move (by conv => lhs; whnf)) ?_
  refine Wo.nil ?_
  refine Wc.seq ?_
  refine Wc.seq ?_
  refine Wc.reg ?_
  refine Wo.op (Step.faddr rfl) ?_
  refine Wo.op (Step.load rfl (by first | assumption | exact Own.row (by assumption)) (by rfl)) ?_
  refine Wo.op (Step.lenSl rfl (by assumption)) ?_
  refine Wo.op (Step.lss (b := 1) rfl rfl) ?_
  refine Wo.op (Step.move (by conv => lhs; whnf)) ?_
  refine Wo.cases (j := 9) rfl (fun hc9 => ?_) (fun hc9 => ?_)
  · skip
    refine Wo.off rfl rfl ?_
    refine Wo.off rfl rfl ?_
    refine Wo.off rfl rfl ?_
    refine Wo.off rfl rfl ?_
    refine Wo.op (Step.pickT rfl (by conv => lhs; whnf)) ?_
    refine Wo.nil ?_
    refine Wc.yes rfl ?_
    refine Wc.seq ?_
    refine Wc.reg ?_
    refine Wo.op (Step.move (by conv => lhs; whnf)) ?_
    refine Wo.nil ?_
    refine Wc.ret ⟨_, Rs.tmp (by conv => lhs; whnf) (Rs.nil), ?_⟩
    exact ⟨congrArg (Value.int .i64) (by unfold validF; rw [if_pos (by omega)]; rfl), eB1⟩
  · skip
    refine Wo.on rfl ?_
    refine Wo.op (Step.faddr rfl) ?_
    refine Wo.on rfl ?_
    refine Wo.op (Step.load rfl (by first | assumption | exact Own.row (by assumption)) (by rfl)) ?_
    refine Wo.on rfl ?_
    refine Wo.op (Step.lenSl rfl (by assumption)) ?_
    refine Wo.on rfl ?_
    refine Wo.op (Step.gtr (b := 6) rfl rfl) ?_
    refine Wo.op (Step.pickF rfl (by conv => lhs; whnf)) ?_
    refine Wo.nil ?_
    refine Wc.ite rfl (fun hc14 => ?_) (fun hc14 => ?_)
    · skip
      refine Wc.seq ?_
      refine Wc.reg ?_
      refine Wo.op (Step.move (by conv => lhs; whnf)) ?_
      refine Wo.nil ?_
      refine Wc.ret ⟨_, Rs.tmp (by conv => lhs; whnf) (Rs.nil), ?_⟩
      exact ⟨congrArg (Value.int .i64) (by unfold validF; rw [if_pos (by omega)]; rfl), eB1⟩
    · skip
      refine Wc.skip ?_
      refine Wc.seq ?_
      refine Wc.seq ?_
      refine Wc.reg ?_
      refine Wo.op (Step.faddr rfl) ?_
      refine Wo.op (Step.load rfl (by first | assumption | exact Own.row (by assumption)) (by rfl)) ?_
      refine Wo.op (Step.lenSl rfl (by assumption)) ?_
      refine Wo.op (Step.faddr rfl) ?_
      refine Wo.op (Step.load rfl (by first | assumption | exact Own.row (by assumption)) (by rfl)) ?_
      refine Wo.op (Step.lenSl rfl (by assumption)) ?_
      refine Wo.op (Step.neq rfl rfl) ?_
      refine Wo.nil ?_
      refine Wc.ite rfl (fun hc21 => ?_) (fun hc21 => ?_)
      · skip
        refine Wc.seq ?_
        refine Wc.reg ?_
        refine Wo.op (Step.move (by conv => lhs; whnf)) ?_
        refine Wo.nil ?_
        refine Wc.ret ⟨_, Rs.tmp (by conv => lhs; whnf) (Rs.nil), ?_⟩
        exact ⟨congrArg (Value.int .i64) (by unfold validF; rw [if_neg (by omega), if_pos (by omega)]; rfl), eB1⟩
      · skip
        refine Wc.skip ?_
        refine Wc.seq ?_
        refine Wc.seq ?_
        refine Wc.reg ?_
        refine Wo.op (Step.faddr rfl) ?_
        refine Wo.op (Step.load rfl (by first | assumption | exact Own.row (by assumption)) (by rfl)) ?_
        refine Wo.op (Step.lenSl rfl (by assumption)) ?_
        refine Wo.op (Step.move (by conv => lhs; whnf)) ?_
        refine Wo.nil ?_
        refine Wc.mid (fun ρ' s' => (ρ' 1 = ptrV s.nextId 0) ∧ (s' = sB1) ∧ (∀ j, j < idx.length → 0 ≤ geti idx (j : Nat) ∧ 1 ≤ geti per (j : Nat))) (Wc.block (Wc.loop (fun m ρ' s' => ∃ (i : Nat), (ρ' 1 = ptrV s.nextId 0) ∧ (ρ' 24 = .int .i64 ((idx.length : Nat) : Int)) ∧ (ρ' 25 = .int .i64 ((i : Nat) : Int)) ∧ (m = idx.length - i) ∧ (s' = sB1) ∧ (i ≤ idx.length) ∧ (∀ j, j < i → 0 ≤ geti idx (j : Nat) ∧ 1 ≤ geti per (j : Nat))) ?_ ?_)) ?_
        · exact ⟨_, 0, rfl, rfl, rfl, rfl, rfl, by omega, by intro j hj; omega⟩
        · intro m ρ0 s0 hI
          obtain ⟨i, e1, e24, e25, hm, hs, hi, hz⟩ := hI
          refine Wc.fix (k := 1) e1 ?_
          refine Wc.fix (k := 24) e24 ?_
          refine Wc.fix (k := 25) e25 ?_
          subst hs
          refine Wc.seq ?_
          refine Wc.reg ?_
          refine Wo.op (Step.lss rfl rfl) ?_
          refine Wo.nil ?_
          refine Wc.seq ?_
          refine Wc.ite rfl (fun hc26 => ?_) (fun hc26 => ?_)
          · skip
            refine Wc.skip ?_
            refine Wc.seq ?_
            refine Wc.block ?_
            refine Wc.seq ?_
            refine Wc.reg ?_
            refine Wo.op (Step.move (by conv => lhs; whnf)) ?_
            refine Wo.op (Step.move (by conv => lhs; whnf)) ?_
            refine Wo.nil ?_
            refine Wc.seq ?_
            refine Wc.reg ?_
            refine Wo.op (Step.faddr rfl) ?_
            refine Wo.op (Step.load rfl (by first | assumption | exact Own.row (by assumption)) (by rfl)) ?_
            refine Wo.op (Step.move (by conv => lhs; whnf)) ?_
            first | refine Wo.idxI rfl (by assumption) rfl (by omega) (by omega) ?_ | refine Wo.idxB rfl (by assumption) rfl (by omega) (by omega) ?_ | refine Wo.idxU rfl (by assumption) rfl (by omega) (by omega) ?_
            intro p31
            refine Wo.op (Step.lss (b := 0) rfl rfl) ?_
            refine Wo.op (Step.move (by conv => lhs; whnf)) ?_
            refine Wo.cases (j := 34) rfl (fun hc34 => ?_) (fun hc34 => ?_)
            · skip
              refine Wo.off rfl rfl ?_
              refine Wo.off rfl rfl ?_
              refine Wo.off rfl rfl ?_
              refine Wo.off rfl rfl ?_
              refine Wo.off rfl rfl ?_
              refine Wo.off rfl rfl ?_
              refine Wo.op (Step.pickT rfl (by conv => lhs; whnf)) ?_
              refine Wo.nil ?_
              refine Wc.yes rfl ?_
              refine Wc.seq ?_
              refine Wc.reg ?_
              refine Wo.op (Step.move (by conv => lhs; whnf)) ?_
              refine Wo.nil ?_
              refine Wc.ret ⟨_, Rs.tmp (by conv => lhs; whnf) (Rs.nil), ?_⟩
              exact ⟨congrArg (Value.int .i64) (by unfold validF; rw [if_neg (by omega), if_neg (by omega), if_pos ⟨i, by omega, by omega⟩]; rfl), eB1⟩
            · skip
              refine Wo.on rfl ?_
              refine Wo.op (Step.faddr rfl) ?_
              refine Wo.on rfl ?_
              refine Wo.op (Step.load rfl (by first | assumption | exact Own.row (by assumption)) (by rfl)) ?_
              refine Wo.on rfl ?_
              refine Wo.op (Step.move (by conv => lhs; whnf)) ?_
              refine Wo.on2 rfl (by decide) ?_
              first | refine Wo.idxI rfl (by assumption) rfl (by omega) (by omega) ?_ | refine Wo.idxB rfl (by assumption) rfl (by omega) (by omega) ?_ | refine Wo.idxU rfl (by assumption) rfl (by omega) (by omega) ?_
              intro p38
              refine Wo.on rfl ?_
              refine Wo.op (Step.lss (b := 1) rfl rfl) ?_
              refine Wo.op (Step.pickF rfl (by conv => lhs; whnf)) ?_
              refine Wo.nil ?_
              refine Wc.ite rfl (fun hc41 => ?_) (fun hc41 => ?_)
              · skip
                refine Wc.seq ?_
                refine Wc.reg ?_
                refine Wo.op (Step.move (by conv => lhs; whnf)) ?_
                refine Wo.nil ?_
                refine Wc.ret ⟨_, Rs.tmp (by conv => lhs; whnf) (Rs.nil), ?_⟩
                exact ⟨congrArg (Value.int .i64) (by unfold validF; rw [if_neg (by omega), if_neg (by omega), if_pos ⟨i, by omega, by omega⟩]; rfl), eB1⟩
              · skip
                refine Wc.skip ?_
                refine Wc.reg ?_
                refine Wo.op (Step.add (b := 1) rfl rfl (by omega)) ?_
                refine Wo.op (Step.move (by conv => lhs; whnf)) ?_
                refine Wo.nil ?_
                refine ⟨_, ?_, i + 1, rfl, rfl, rfl, rfl, rfl, by omega, by intro j hj; by_cases e : j = i; subst e; omega; exact hz j (by omega)⟩
                omega
          · skip
            refine Wc.exit ?_
            refine .inl ⟨rfl, ?_⟩
            exact ⟨rfl, rfl, fun j hj => hz j (by omega)⟩
        · intro ρx0 sx0 hP
          obtain ⟨e1, hs, hz⟩ := hP
          show Wc _ _ _ _ _ _ _
          refine Wc.fix (k := 1) e1 ?_
          subst hs
          have hg := good_of (by omega) hz
          have hpp := prod_pos (mods_pos hg)
          have hsz := sizeL_eq (n := 1) hg (by omega) (by omega)
          rw [Int.one_mul] at hsz
          have hnb : ¬ ∃ i, i < idx.length ∧ (geti idx (i : Nat) < 0 ∨ geti per (i : Nat) < 1) := fun ⟨j, hj, hh⟩ => by have := hz j hj; omega
          refine Wc.seq ?_
          refine Wc.reg ?_
          refine Wo.op (Step.faddr rfl) ?_
          refine Wo.op (Step.load rfl (by first | assumption | exact Own.row (by assumption)) (by rfl)) ?_
          refine Wo.op (Step.faddr rfl) ?_
          refine Wo.op (Step.load rfl (by first | assumption | exact Own.row (by assumption)) (by rfl)) ?_
          -- call counting_size
          refine Wo.call (Wf.mono (counting_size_ok hI1 hP1 hg (by omega)) ?_)
          rintro _ _ ⟨rfl, rfl⟩
          refine Wo.op (Step.move (by conv => lhs; whnf)) ?_
          refine Wo.nil ?_
          refine Wc.seq ?_
          refine Wc.seq ?_
          refine Wc.reg ?_
          refine Wo.op (Step.move (by conv => lhs; whnf)) ?_
          refine Wo.op (Step.gtr (b := 2000) rfl rfl) ?_
          refine Wo.nil ?_
          refine Wc.ite rfl (fun hc49 => ?_) (fun hc49 => ?_)
          · skip
            refine Wc.seq ?_
            refine Wc.reg ?_
            refine Wo.op (Step.move (by conv => lhs; whnf)) ?_
            refine Wo.nil ?_
            refine Wc.ret ⟨_, Rs.tmp (by conv => lhs; whnf) (Rs.nil), ?_⟩
            exact ⟨congrArg (Value.int .i64) (by unfold validF; rw [if_neg (by omega), if_neg (by omega), if_neg hnb, if_pos (by rw [hsz] at hc49; split at hc49 <;> omega)]; rfl), eB1⟩
          · skip
            refine Wc.skip ?_
            refine Wc.seq ?_
            refine Wc.seq ?_
            refine Wc.reg ?_
            refine Wo.op (Step.faddr rfl) ?_
            refine Wo.op (Step.load rfl (by first | assumption | exact Own.row (by assumption)) (by rfl)) ?_
            refine Wo.op (Step.lenSl rfl (by assumption)) ?_
            refine Wo.op (Step.move (by conv => lhs; whnf)) ?_
            refine Wo.op (Step.neq rfl rfl) ?_
            refine Wo.nil ?_
            refine Wc.ite rfl (fun hc54 => ?_) (fun hc54 => ?_)
            · skip
              refine Wc.seq ?_
              refine Wc.reg ?_
              refine Wo.op (Step.move (by conv => lhs; whnf)) ?_
              refine Wo.nil ?_
              refine Wc.ret ⟨_, Rs.tmp (by conv => lhs; whnf) (Rs.nil), ?_⟩
              exact ⟨congrArg (Value.int .i64) (by unfold validF; rw [if_neg (by omega), if_neg (by omega), if_neg hnb, if_neg (by rw [hsz] at hc49; split at hc49 <;> omega), if_pos (by rw [hsz] at hc49 hc54; split at hc49 <;> simp_all)]; rfl), eB1⟩
            · skip
              refine Wc.skip ?_
              refine Wc.seq ?_
              refine Wc.reg ?_
              refine Wo.op (Step.move (by conv => lhs; whnf)) ?_
              refine Wo.nil ?_
              refine Wc.ret ⟨_, Rs.tmp (by conv => lhs; whnf) (Rs.nil), ?_⟩
              exact ⟨congrArg (Value.int .i64) (by unfold validF; rw [if_neg (by omega), if_neg (by omega), if_neg hnb, if_neg (by rw [hsz] at hc49; split at hc49 <;> omega), if_neg (by rw [hsz] at hc49 hc54; split at hc49 <;> simp_all)]; rfl), eB1⟩
theorem counting_Match_ok {s : St} {P : Nat → Prop} {vI vP vA : Value} {idx per : List Int} {acc : List Bool} {w : List UInt8} (hI : IsInts s P vI idx) (hP : IsInts s P vP per) (hA : IsBools s P vA acc) (hw : w.length < 9223372036854775807) :
    Wf kprog n_counting_Match [.agg ⟨[vI, vP, vA]⟩, .string ⟨⟨w⟩⟩] s (fun v s' => v = .bool (matchF idx per acc w) ∧ Pur s s') := by
  refine Wf.of p_counting_Match rfl ?_
  unfold c_counting_Match
  refine Wc.seq ?_
  refine Wc.reg ?_
  refine Wo.box (by conv => lhs; whnf) ?_
  intro sB2 eB2 oB2 nB2
  have hI1 := hI.pur eB2
  have hP1 := hP.pur eB2
  have hA1 := hA.pur eB2
  refine Wo.op (Step.move (by conv => lhs; whnf)) ?_
  refine Wo.nil ?_
  refine Wc.seq ?_
  refine Wc.seq ?_
  refine Wc.reg ?_
  refine Wo.op (Step.loadN rfl (by first | assumption | exact Own.row (by assumption)) (by rfl)) ?_
  -- call counting_Validate
  refine Wo.call (Wf.mono (counting_Validate_ok hI1 hP1 hA1) ?_)
  rintro _ s2 ⟨rfl, eV⟩
  have hI2 := hI1.pur eV
  have hP2 := hP1.pur eV
  have hA2 := hA1.pur eV
  have oB2 := oB2.pur eV
  refine Wo.op (Step.neq (b := 0) rfl rfl) ?_
  refine Wo.op (Step.move (by conv => lhs; whnf)) ?_
  refine Wo.cases (j := 10) rfl (fun hc10 => ?_) (fun hc10 => ?_)
  · skip
    refine Wo.off rfl rfl ?_
    refine Wo.off rfl rfl ?_
    refine Wo.off rfl rfl ?_
    refine Wo.off rfl rfl ?_
    refine Wo.off rfl rfl ?_
    refine Wo.off rfl rfl ?_
    refine Wo.op (Step.pickT rfl (by conv => lhs; whnf)) ?_
    refine Wo.nil ?_
    refine Wc.yes rfl ?_
    refine Wc.seq ?_
    refine Wc.reg ?_
    refine Wo.op (Step.move (by conv => lhs; whnf)) ?_
    refine Wo.nil ?_
    refine Wc.ret ⟨_, Rs.tmp (by conv => lhs; whnf) (Rs.nil), ?_⟩
    exact ⟨congrArg Value.bool (by unfold matchF; rw [decide_eq_false hc10]; rfl), eB2.trans eV⟩
  · have hv0 : validF idx per acc.length = 0 := by simpa using hc10
    obtain ⟨hg, hl1, hl6, hpr, hacc⟩ := validF_good hv0
    refine Wo.on rfl ?_
    refine Wo.op (Step.move (by conv => lhs; whnf)) ?_
    refine Wo.on rfl ?_
    refine Wo.op (Step.faddr rfl) ?_
    refine Wo.on rfl ?_
    refine Wo.op (Step.load rfl (by first | assumption | exact Own.row (by assumption)) (by rfl)) ?_
    refine Wo.on rfl ?_
    refine Wo.op (Step.lenSl rfl (by assumption)) ?_
    refine Wo.on rfl ?_
    -- call word_Valid
    refine Wo.call (Wf.mono (word_Valid_ok (w := w) (k := ((idx.length : Nat) : Int)) (by omega) hw) ?_)
    rintro _ _ ⟨rfl, rfl⟩
    refine Wo.on rfl ?_
    refine Wo.op (Step.notD rfl) ?_
    refine Wo.op (Step.pickF rfl (by conv => lhs; whnf)) ?_
    refine Wo.nil ?_
    refine Wc.ite rfl (fun hc17 => ?_) (fun hc17 => ?_)
    · skip
      refine Wc.seq ?_
      refine Wc.reg ?_
      refine Wo.op (Step.move (by conv => lhs; whnf)) ?_
      refine Wo.nil ?_
      refine Wc.ret ⟨_, Rs.tmp (by conv => lhs; whnf) (Rs.nil), ?_⟩
      exact ⟨congrArg Value.bool (by unfold matchF; rw [decide_eq_false hc17]; simp), eB2.trans eV⟩
    · have hwk : WordOk w idx.length := by simpa using hc17
      refine Wc.skip ?_
      refine Wc.seq ?_
      refine Wc.reg ?_
      refine Wo.op (Step.move (by conv => lhs; whnf)) ?_
      refine Wo.nil ?_
      refine Wc.seq ?_
      refine Wc.seq ?_
      refine Wc.reg ?_
      refine Wo.op (Step.move (by conv => lhs; whnf)) ?_
      refine Wo.nil ?_
      refine Wc.mid (fun ρ' s' => (ρ' 2 = ptrV s.nextId 0) ∧ (ρ' 5 = .int .i64 (encA idx per (cnts idx.length w))) ∧ (Pur s2 s')) (Wc.block (Wc.loop (fun m ρ' s' => ∃ (i : Nat), (ρ' 1 = .string ⟨⟨w⟩⟩) ∧ (ρ' 2 = ptrV s.nextId 0) ∧ (ρ' 5 = .int .i64 (encA idx per (cnts idx.length (w.take i)))) ∧ (ρ' 6 = .int .i64 ((i : Nat) : Int)) ∧ (m = w.length - i) ∧ (Pur s2 s') ∧ (i ≤ w.length)) ?_ ?_)) ?_
      · exact ⟨_, 0, rfl, rfl, congrArg (Value.int .i64) (by rw [List.take_zero, cnts_nil, encA_nil hg]; rfl), rfl, rfl, Chg.refl _, by omega⟩
      · intro m ρ0 s0 hI
        obtain ⟨i, e1, e2, e5, e6, hm, hs, hi⟩ := hI
        refine Wc.fix (k := 1) e1 ?_
        refine Wc.fix (k := 2) e2 ?_
        refine Wc.fix (k := 5) e5 ?_
        refine Wc.fix (k := 6) e6 ?_
        have oB2 := oB2.pur hs
        have hI3 := hI2.pur hs
        have hP3 := hP2.pur hs
        have hr := encA_range (ns := cnts idx.length (w.take i)) hg (cnts_nonneg _ _) (cnts_length _ _)
        refine Wc.seq ?_
        refine Wc.seq ?_
        refine Wc.reg ?_
        refine Wo.op (Step.move (by conv => lhs; whnf)) ?_
        refine Wo.op (Step.move (by conv => lhs; whnf)) ?_
        refine Wo.op (Step.lenStrG rfl) ?_
        refine Wo.op (Step.lss rfl rfl) ?_
        refine Wo.nil ?_
        refine Wc.ite rfl (fun hc21 => ?_) (fun hc21 => ?_)
        · skip
          refine Wc.skip ?_
          refine Wc.seq ?_
          refine Wc.block ?_
          refine Wc.draw ?_
          have hch := hwk.2.2.2 _ (getu_mem (w := w) (i := i) (by omega) (by omega))
          have hlt := getu_lt w i
          refine Wd.read rfl (Step.loadN rfl (by first | assumption | exact Own.row (by assumption)) (by rfl)) ?_
          refine Wd.pure rfl (Step.move (by conv => lhs; whnf)) ?_
          refine Wd.pure rfl (Step.move (by conv => lhs; whnf)) ?_
          refine Wd.pure rfl (Step.move (by conv => lhs; whnf)) ?_
          refine Wd.pure rfl (Step.idxStrG rfl rfl (by omega) (by omega)) ?_
          refine Wd.pure rfl (Step.sub8 (b := 97) rfl rfl (by omega)) ?_
          refine Wd.pure rfl (Step.conv64 rfl (by omega)) ?_
          -- call counting_next
          refine Wd.call (Wf.mono (counting_next_ok hI3 hP3 hg hl6 hpr (by omega) hr) ?_)
          rintro _ s3 ⟨rfl, e3⟩
          refine ⟨by simp, ?_⟩
          refine Wd.pure rfl (Step.move (by conv => lhs; whnf)) ?_
          refine Wd.nil ?_
          refine Wc.reg ?_
          refine Wo.op (Step.move (by conv => lhs; whnf)) ?_
          refine Wo.op (Step.add (b := 1) rfl rfl (by omega)) ?_
          refine Wo.op (Step.move (by conv => lhs; whnf)) ?_
          refine Wo.nil ?_
          refine ⟨_, ?_, i + 1, rfl, rfl, congrArg (Value.int .i64) ?_, rfl, rfl, hs.trans e3, by omega⟩
          omega
          obtain ⟨a, ha⟩ : ∃ a : Nat, (getu w i).toNat = 97 + a := ⟨(getu w i).toNat - 97, by omega⟩
          rw [take_getu (by omega), cnts_snoc ha, ← nextF_enc hg (cnts_nonneg _ _) (cnts_length _ _) (by omega)]
          rw [show (((getu w i).toNat : Nat) : Int) - 97 = (a : Int) by omega]
        · skip
          refine Wc.exit ?_
          refine .inl ⟨rfl, ?_⟩
          exact ⟨rfl, congrArg (Value.int .i64) (by rw [List.take_of_length_le (by omega)]), hs⟩
      · intro ρx0 sx0 hP
        obtain ⟨e2, e5, hs⟩ := hP
        show Wc _ _ _ _ _ _ _
        refine Wc.fix (k := 2) e2 ?_
        refine Wc.fix (k := 5) e5 ?_
        have hr := encA_range (ns := cnts idx.length w) hg (cnts_nonneg _ _) (cnts_length _ _)
        have oB2 := oB2.pur hs
        have hA3 := hA2.pur hs
        refine Wc.seq ?_
        refine Wc.reg ?_
        refine Wo.op (Step.faddr rfl) ?_
        refine Wo.op (Step.load rfl (by first | assumption | exact Own.row (by assumption)) (by rfl)) ?_
        refine Wo.op (Step.move (by conv => lhs; whnf)) ?_
        first | refine Wo.idxI rfl (by assumption) rfl (by omega) (by omega) ?_ | refine Wo.idxB rfl (by assumption) rfl (by omega) (by omega) ?_ | refine Wo.idxU rfl (by assumption) rfl (by omega) (by omega) ?_
        intro p35
        refine Wo.op (Step.move (by conv => lhs; whnf)) ?_
        refine Wo.nil ?_
        refine Wc.ret ⟨_, Rs.tmp (by conv => lhs; whnf) (Rs.nil), ?_⟩
        exact ⟨congrArg Value.bool (by unfold matchF; rw [decide_eq_true hv0, decide_eq_true hwk]; rfl), (eB2.trans eV).trans hs⟩
end Go.EvK
end

section
set_option linter.unusedVariables false
set_option maxRecDepth 100000
set_option maxHeartbeats 4000000
namespace Go.EvK
open Go Go.Ev Go.EvW Go.Co
theorem made_Tape_Counts_ok {s : St} {P : Nat → Prop} {T : Nat} {k : Int} (h : MTape P s T) (hPT : ¬ P T) (hPN : ∀ A, P A → A < s.nextId) (hk : 1 ≤ k ∧ k ≤ 3) :
    Wf kprog n_made_Tape_Counts [ptrV T 0, .int .i64 k] s (fun v s' => ∃ vI vP vA idx per acc, v = .agg ⟨[vI, vP, vA]⟩ ∧ IsInts s' (fun A => s.nextId ≤ A) vI idx ∧ IsInts s' (fun A => s.nextId ≤ A) vP per ∧ IsBools s' (fun A => s.nextId ≤ A) vA acc ∧
      Good idx per ∧ idx.length = k.toNat ∧ (∀ n ∈ idx, 0 ≤ n ∧ n ≤ 2) ∧ (∀ n ∈ per, 1 ≤ n ∧ n ≤ 3) ∧ prod (mods idx per) ≤ 125 ∧ (acc.length : Int) = prod (mods idx per) ∧ Wrt T s s' ∧ MTape P s' T) := by
  have hTs := h.lt
  refine Wf.of p_made_Tape_Counts rfl ?_
  unfold c_made_Tape_Counts
  refine Wc.seq ?_
  refine Wc.reg ?_
  refine Wo.alloc ?_
  intro s1 eA1 o4 n1
  refine Wo.nil ?_
  refine Wc.seq ?_
  refine Wc.reg ?_
  refine Wo.alloc ?_
  intro s2 eA2 o5 n2
  have o4 := o4.pur eA2
  have h2 := (h.pur eA1).pur eA2
  refine Wo.nil ?_
  refine Wc.seq ?_
  refine Wc.reg ?_
  refine Wo.op (Step.move (by conv => lhs; whnf)) ?_
  refine Wo.nil ?_
  refine Wc.seq ?_
  refine Wc.seq ?_
  refine Wc.reg ?_
  refine Wo.op (Step.move (by conv => lhs; whnf)) ?_
  refine Wo.nil ?_
  refine Wc.mid (fun ρ' s' => ∃ (n : Int) (vI : Value) (vP : Value) (idx : List Int) (per : List Int) (AI : Nat) (AP : Nat), (ρ' 0 = ptrV T 0) ∧ (ρ' 4 = ptrV s.nextId 0) ∧ (ρ' 5 = ptrV s1.nextId 0) ∧ (ρ' 6 = .int .i64 n) ∧ (Wrt T s s') ∧ (MTape P s' T) ∧ (Own s' s.nextId 0 [.slice none 0 0, .slice none 0 0, .slice none 0 0]) ∧ (Own s' s1.nextId 0 [vI, vP, .slice none 0 0]) ∧ (Lst s' AI 1 vI (enI idx)) ∧ (Lst s' AP 1 vP (enI per)) ∧ (AI ≠ AP ∧ AI < s'.nextId ∧ AP < s'.nextId) ∧ (idx ≠ [] → s1.nextId < AI ∧ s1.nextId < AP) ∧ ((idx.length : Int) = k ∧ (per.length : Int) = k) ∧ (∀ n ∈ idx, 0 ≤ n ∧ n ≤ 2) ∧ (∀ n ∈ per, 1 ≤ n ∧ n ≤ 3) ∧ (n = prod (mods idx per)) ∧ (n ≤ 125)) (Wc.block (Wc.loop (fun m ρ' s' => ∃ (a : Nat) (n : Int) (vI : Value) (vP : Value) (idx : List Int) (per : List Int) (AI : Nat) (AP : Nat), (ρ' 0 = ptrV T 0) ∧ (ρ' 1 = .int .i64 k) ∧ (ρ' 4 = ptrV s.nextId 0) ∧ (ρ' 5 = ptrV s1.nextId 0) ∧ (ρ' 6 = .int .i64 n) ∧ (ρ' 7 = .int .i64 ((a : Nat) : Int)) ∧ (m = (k - a).toNat) ∧ (Wrt T s s') ∧ (MTape P s' T) ∧ (Own s' s.nextId 0 [.slice none 0 0, .slice none 0 0, .slice none 0 0]) ∧ (Own s' s1.nextId 0 [vI, vP, .slice none 0 0]) ∧ (Lst s' AI 1 vI (enI idx)) ∧ (Lst s' AP 1 vP (enI per)) ∧ (AI ≠ AP ∧ AI < s'.nextId ∧ AP < s'.nextId) ∧ (idx ≠ [] → s1.nextId < AI ∧ s1.nextId < AP) ∧ (idx.length = a ∧ per.length = a ∧ (a : Int) ≤ k) ∧ (∀ n ∈ idx, 0 ≤ n ∧ n ≤ 2) ∧ (∀ n ∈ per, 1 ≤ n ∧ n ≤ 3) ∧ (n = prod (mods idx per)) ∧ (n ≤ ((5 ^ a : Nat) : Int))) ?_ ?_)) ?_
  · exact ⟨_, 0, _, .slice none 0 0, .slice none 0 0, [], [], 0, 1, rfl, rfl, rfl, rfl, rfl, rfl, rfl, Chg.trans (Chg.pur eA1) (Chg.pur eA2), h2, o4, o5, Lst.nil, Lst.nil, by omega, by simp, by simp; omega, by simp, by simp, rfl, by simp⟩
  · intro m ρ0 s0 hI
    obtain ⟨a, n, vI, vP, idx, per, AI, AP, e0, e1, e4, e5, e6, e7, hm, he, ht, hO4, hO5, hLI, hLP, hAA, hAN, hla, hri, hrp, hn, hnb⟩ := hI
    refine Wc.fix (k := 0) e0 ?_
    refine Wc.fix (k := 1) e1 ?_
    refine Wc.fix (k := 4) e4 ?_
    refine Wc.fix (k := 5) e5 ?_
    refine Wc.fix (k := 6) e6 ?_
    refine Wc.fix (k := 7) e7 ?_
    have hTl := ht.lt
    have hC4 := hO4.1
    have hC5 := hO5.1
    refine Wc.seq ?_
    refine Wc.seq ?_
    refine Wc.reg ?_
    refine Wo.op (Step.move (by conv => lhs; whnf)) ?_
    refine Wo.op (Step.move (by conv => lhs; whnf)) ?_
    refine Wo.op (Step.lss rfl rfl) ?_
    refine Wo.nil ?_
    refine Wc.ite rfl (fun hc11 => ?_) (fun hc11 => ?_)
    · skip
      refine Wc.skip ?_
      refine Wc.seq ?_
      refine Wc.block ?_
      refine Wc.seq ?_
      refine Wc.draw ?_
      refine Wd.pure rfl (Step.faddr rfl) ?_
      refine Wd.read rfl (Step.load rfl (by first | assumption | exact Own.row (by assumption)) (by rfl)) ?_
      refine Wd.pure rfl (Step.move (by conv => lhs; whnf)) ?_
      refine Wd.pure rfl (Step.faddr rfl) ?_
      refine Wd.read rfl (Step.load rfl (by first | assumption | exact Own.row (by assumption)) (by rfl)) ?_
      refine Wd.pure rfl (Step.move (by conv => lhs; whnf)) ?_
      -- call made_Tape_Next
      refine Wd.call (Wf.mono (made_Tape_Next_ok (n := 3) ht hPT ⟨by omega, by omega⟩) ?_)
      rintro _ s3 ⟨r1, rfl, hr10, hr11, c3, nx3, t3⟩
      have hTC : s.nextId ≠ T := by omega
      have hTC5 : s1.nextId ≠ T := by omega
      have o43 := hO4.chg c3 hTC
      have o53 := hO5.chg c3 hTC5
      have hLI3 := hLI.chg c3 (fun hc e => by have := hAN (by simpa using hc); omega)
      have hLP3 := hLP.chg c3 (fun hc e => by have := hAN (fun h => by rw [h] at hla; simp at hla; have := hla.2.1; rw [← hla.1, List.length_eq_zero_iff] at this; simp [this] at hc); omega)
      refine ⟨⟨fun _ => reread rfl (Own.row o53) (by rfl) hLP.veq, fun _ => reread rfl (Own.row o53) (by rfl) hLI.veq, trivial⟩, ?_⟩
      refine Wd.app1 (A := AI) (cells := enI idx) (w := .int .i64 r1) rfl hLI3 rfl rfl (by simp) (by omega) (by simp; omega) (fun s' hp => ⟨fun _ => reread rfl (Own.row (o53.pur hp)) (by rfl) hLP.veq, fun _ => reread rfl (Own.row (o53.pur hp)) (by rfl) hLI.veq, trivial⟩) ?_
      intro p19 vI2 s4 hLI4 c4 nx4
      have hnA : ∀ B, B < s1.nextId + 1 → ¬ (B = AI ∧ enI idx ≠ []) := fun B hB hh => by have := hAN (by simpa using hh.2); omega
      have o44 := o43.chg c4 (hnA _ (by omega))
      have o54 := o53.chg c4 (hnA _ (by omega))
      have t4 : MTape P s4 T := t3.chg c4 (hnA _ (by omega)) (fun A hA => hnA A (by have := hPN A hA; omega))
      have hLP4 := hLP3.chg c4 (fun hc e => hAA.1 e.1.symm)
      refine ⟨⟨fun _ => reread rfl (Own.row o54) (by rfl) hLP.veq, fun h => absurd h (by omega), trivial⟩, ?_⟩
      refine Wd.pure rfl (Step.faddr rfl) ?_
      -- call made_Tape_Next
      refine Wd.call (Wf.mono (made_Tape_Next_ok (n := 3) t4 hPT ⟨by omega, by omega⟩) ?_)
      rintro _ s5 ⟨r2, rfl, hr20, hr21, c5, nx5, t5⟩
      have o45 := o44.chg c5 hTC
      have o55 := o54.chg c5 hTC5
      have hLI5 := hLI4.chg c5 (fun hc e => by omega)
      have hLP5 := hLP4.chg c5 (fun hc e => by have := hAN (fun h => by rw [h] at hla; simp at hla; have := hla.2.1; rw [← hla.1, List.length_eq_zero_iff] at this; simp [this] at hc); omega)
      refine ⟨⟨by omega, fun _ => reread rfl (Own.row o55) (by rfl) hLP.veq, fun h => absurd h (by omega), trivial⟩, ?_⟩
      refine Wd.pure rfl (Step.add (a := 1) rfl rfl (by omega)) ?_
      refine Wd.app1 (A := AP) (cells := enI per) (w := .int .i64 (1 + r2)) rfl hLP5 rfl rfl (by simp) (by omega) (by simp; omega) (fun s' hp => ⟨by omega, fun _ => reread rfl (Own.row (o55.pur hp)) (by rfl) hLP.veq, fun h => absurd h (by omega), trivial⟩) ?_
      intro p26 vP2 s6 hLP6 c6 nx6
      have hnP : ∀ B, B < s1.nextId + 1 → ¬ (B = AP ∧ enI per ≠ []) := fun B hB hh => by have := hAN (fun h => by rw [h] at hla; simp at hla; have := hla.2.1; rw [← hla.1, List.length_eq_zero_iff] at this; simp [this] at hh); omega
      have o46 := o45.chg c6 (hnP _ (by omega))
      have o56 := o55.chg c6 (hnP _ (by omega))
      have t6 : MTape P s6 T := t5.chg c6 (hnP _ (by omega)) (fun A hA => hnP A (by have := hPN A hA; omega))
      have hLI6 := hLI5.chg c6 (fun hc e => by omega)
      have hw6 : Wrt T s s6 := (((he.trans c3).step c4 (fun B hB hh => absurd hh (hnA B (by omega)))).trans c5).step c6 (fun B hB hh => absurd hh (hnP B (by omega)))
      refine ⟨⟨by omega, fun h => absurd h (by omega), fun h => absurd h (by omega), trivial⟩, ?_⟩
      refine Wd.store rfl (by first | exact Sl.cell (by assumption) | exact Lst.cell (by assumption) | (conv => lhs; whnf)) (by rfl) (by first | rfl | exact Sl.one (by assumption) | exact Lst.one (by assumption) | exact ones3 (Sl.one (by assumption)) (Sl.one (by assumption)) (Sl.one (by assumption))) (by assumption) (by rfl) ?_
      intro sS0 wS0 oS0 nS0
      refine ⟨by simp, ?_⟩
      have hLI6 := hLI6.chg wS0 (fun hc e => by omega)
      have hLP6 := hLP6.chg wS0 (fun hc e => by omega)
      have hw6 : Wrt T s sS0 := hw6.step wS0 (fun B hB hh => by omega)
      have t6 : MTape P sS0 T := t6.chg wS0 (by omega) (fun A hA e => by have := hPN A hA; omega)
      have o46 := o46.chg wS0 (by omega)
      refine Wd.pure rfl (Step.faddr rfl) ?_
      refine Wd.store rfl (by first | exact Sl.cell (by assumption) | exact Lst.cell (by assumption) | (conv => lhs; whnf)) (by rfl) (by first | rfl | exact Sl.one (by assumption) | exact Lst.one (by assumption) | exact ones3 (Sl.one (by assumption)) (Sl.one (by assumption)) (Sl.one (by assumption))) (by assumption) (by rfl) ?_
      intro sS1 wS1 oS1 nS1
      refine ⟨by simp, ?_⟩
      have hLI6 := hLI6.chg wS1 (fun hc e => by omega)
      have hLP6 := hLP6.chg wS1 (fun hc e => by omega)
      have hw6 : Wrt T s sS1 := hw6.step wS1 (fun B hB hh => by omega)
      have ht6 : MTape P sS1 T := t6.chg wS1 (by omega) (fun A hA e => by have := hPN A hA; omega)
      have o46 := o46.chg wS1 (by omega)
      have hI6 : IsInts sS1 (fun _ => True) vI2 (idx ++ [r1]) := Lst.ints (A := s3.nextId + 1) (by simpa [enI] using hLI6) (fun _ => trivial)
      have hP6 : IsInts sS1 (fun _ => True) vP2 (per ++ [1 + r2]) := Lst.ints (A := s5.nextId + 1) (by simpa [enI] using hLP6) (fun _ => trivial)
      have hLI6 : Lst sS1 (s3.nextId + 1) 1 vI2 (enI (idx ++ [r1])) := by simpa [enI] using hLI6
      have hLP6 : Lst sS1 (s5.nextId + 1) 1 vP2 (enI (per ++ [1 + r2])) := by simpa [enI] using hLP6
      have hgi : geti (idx ++ [r1]) ((a : Nat) : Int) = r1 := by simp [geti, ← hla.1]
      have hgp : geti (per ++ [1 + r2]) ((a : Nat) : Int) = 1 + r2 := by simp [geti, ← hla.2.1]
      have hli : (idx ++ [r1]).length = a + 1 := by simp; omega
      have hlp : (per ++ [1 + r2]).length = a + 1 := by simp; omega
      have hg0 : Good idx per := ⟨by omega, fun n hn => (hri n hn).1, fun n hn => (hrp n hn).1⟩
      have hn0 := prod_pos (mods_pos hg0)
      rw [← hn] at hn0
      have h5 : 5 ^ a ≤ 5 ^ 2 := Nat.pow_le_pow_right (by omega) (by omega)
      have hmn := mul_bnd (a := n) (b := r1 + (1 + r2)) (A := ((5 ^ a : Nat) : Int)) (B := 5) ⟨by omega, hnb⟩ (by omega)
      have hnn : n * (r1 + (1 + r2)) = prod (mods (idx ++ [r1]) (per ++ [1 + r2])) := by
        unfold mods
        rw [List.zipWith_append (by omega), prod_append, hn]
        simp [mods, prod]
      have hmn1 : n * (r1 + (1 + r2)) ≤ ((5 ^ (a + 1) : Nat) : Int) := by rw [Nat.pow_succ, Int.natCast_mul]; exact hmn.2
      refine Wd.nil ?_
      refine Wc.draw ?_
      refine Wd.pure rfl (Step.move (by conv => lhs; whnf)) ?_
      refine Wd.pure rfl (Step.faddr rfl) ?_
      refine Wd.read rfl (Step.load rfl (by first | assumption | exact Own.row (by assumption)) (by rfl)) ?_
      refine Wd.pure rfl (Step.move (by conv => lhs; whnf)) ?_
      first | refine Wd.idxI rfl (by assumption) rfl (by omega) (by omega) ?_ | refine Wd.idxB rfl (by assumption) rfl (by omega) (by omega) ?_ | refine Wd.idxU rfl (by assumption) rfl (by omega) (by omega) ?_
      intro p33
      refine Wd.pure rfl (Step.faddr rfl) ?_
      refine Wd.read rfl (Step.load rfl (by first | assumption | exact Own.row (by assumption)) (by rfl)) ?_
      refine Wd.pure rfl (Step.move (by conv => lhs; whnf)) ?_
      first | refine Wd.idxI rfl (by assumption) rfl (by omega) (by omega) ?_ | refine Wd.idxB rfl (by assumption) rfl (by omega) (by omega) ?_ | refine Wd.idxU rfl (by assumption) rfl (by omega) (by omega) ?_
      intro p38
      rw [hgi, hgp]
      refine Wd.pure rfl (Step.add rfl rfl (by omega)) ?_
      refine Wd.pure rfl (Step.mul rfl rfl (by omega)) ?_
      refine Wd.pure rfl (Step.move (by conv => lhs; whnf)) ?_
      refine Wd.nil ?_
      refine Wc.reg ?_
      refine Wo.op (Step.move (by conv => lhs; whnf)) ?_
      refine Wo.op (Step.add (b := 1) rfl rfl (by omega)) ?_
      refine Wo.op (Step.move (by conv => lhs; whnf)) ?_
      refine Wo.nil ?_
      refine ⟨_, ?_, a + 1, _, vI2, vP2, idx ++ [r1], per ++ [1 + r2], _, _, rfl, rfl, rfl, rfl, rfl, rfl, rfl, ?_, ?_, ?_, ?_, hLI6, hLP6, ?_, ?_, ?_, ?_, ?_, hnn, ?_⟩
      · omega
      · exact hw6
      · exact ht6
      · exact o46
      · exact oS1
      · exact ⟨by omega, by omega, by omega⟩
      · intro _; omega
      · simp; omega
      · intro n hn; rw [List.mem_append, List.mem_singleton] at hn; rcases hn with hn | rfl; exact hri n hn; omega
      · intro n hn; rw [List.mem_append, List.mem_singleton] at hn; rcases hn with hn | rfl; exact hrp n hn; omega
      · exact hmn1
    · skip
      refine Wc.exit ?_
      refine .inl ⟨rfl, ?_⟩
      have hak : (a : Int) = k := by omega
      have h5 : 5 ^ a ≤ 5 ^ 3 := Nat.pow_le_pow_right (by omega) (by omega)
      exact ⟨_, vI, vP, idx, per, AI, AP, rfl, rfl, rfl, rfl, he, ht, hO4, hO5, hLI, hLP, hAA, hAN, by omega, hri, hrp, hn, by omega⟩
  · intro ρx0 sx0 hP
    obtain ⟨n, vI, vP, idx, per, AI, AP, e0, e4, e5, e6, he, ht, hO4, hO5, hLI, hLP, hAA, hAN, hla, hri, hrp, hn, hnb⟩ := hP
    show Wc _ _ _ _ _ _ _
    refine Wc.fix (k := 0) e0 ?_
    refine Wc.fix (k := 4) e4 ?_
    refine Wc.fix (k := 5) e5 ?_
    refine Wc.fix (k := 6) e6 ?_
    have hg : Good idx per := ⟨by omega, fun n hn => (hri n hn).1, fun n hn => (hrp n hn).1⟩
    have hn1 := prod_pos (mods_pos hg)
    rw [← hn] at hn1
    have hidx : idx ≠ [] := fun h => by rw [h] at hla; simp at hla; omega
    have hper : per ≠ [] := fun h => by rw [h] at hla; simp at hla; omega
    have hAN := hAN hidx
    refine Wc.seq ?_
    refine Wc.seq ?_
    refine Wc.reg ?_
    refine Wo.op (Step.move (by conv => lhs; whnf)) ?_
    refine Wo.nil ?_
    refine Wc.mid (fun ρ' s' => ∃ (vA : Value) (acc : List Bool) (AA : Nat), (ρ' 4 = ptrV s.nextId 0) ∧ (ρ' 5 = ptrV s1.nextId 0) ∧ (Wrt T s s') ∧ (MTape P s' T) ∧ (Own s' s.nextId 0 [.slice none 0 0, .slice none 0 0, .slice none 0 0]) ∧ (Own s' s1.nextId 0 [vI, vP, vA]) ∧ (Lst s' AI 1 vI (enI idx)) ∧ (Lst s' AP 1 vP (enI per)) ∧ (Lst s' AA 1 vA (enB acc)) ∧ (acc ≠ [] → sx0.nextId ≤ AA) ∧ ((acc.length : Int) = n)) (Wc.block (Wc.loop (fun m ρ' s' => ∃ (q : Nat) (vA : Value) (acc : List Bool) (AA : Nat), (ρ' 0 = ptrV T 0) ∧ (ρ' 4 = ptrV s.nextId 0) ∧ (ρ' 5 = ptrV s1.nextId 0) ∧ (ρ' 6 = .int .i64 n) ∧ (ρ' 8 = .int .i64 ((q : Nat) : Int)) ∧ (m = (n - q).toNat) ∧ (Wrt T s s') ∧ (MTape P s' T) ∧ (Own s' s.nextId 0 [.slice none 0 0, .slice none 0 0, .slice none 0 0]) ∧ (Own s' s1.nextId 0 [vI, vP, vA]) ∧ (Lst s' AI 1 vI (enI idx)) ∧ (Lst s' AP 1 vP (enI per)) ∧ (Lst s' AA 1 vA (enB acc)) ∧ (acc ≠ [] → sx0.nextId ≤ AA) ∧ (sx0.nextId ≤ s'.nextId) ∧ (acc.length = q ∧ (q : Int) ≤ n)) ?_ ?_)) ?_
    · exact ⟨_, 0, .slice none 0 0, [], 0, rfl, rfl, rfl, rfl, rfl, rfl, he, ht, hO4, hO5, hLI, hLP, Lst.nil, by simp, by omega, by simp; omega⟩
    · intro m ρ2 s2 hI
      obtain ⟨q, vA, acc, AA, e0, e4, e5, e6, e8, hm, ge, gt, gO4, gO5, gLI, gLP, gLA, gAN, gnx, gq⟩ := hI
      refine Wc.fix (k := 0) e0 ?_
      refine Wc.fix (k := 4) e4 ?_
      refine Wc.fix (k := 5) e5 ?_
      refine Wc.fix (k := 6) e6 ?_
      refine Wc.fix (k := 8) e8 ?_
      have gTl := ht.lt
      have gC4 := hO4.1
      have gC5 := hO5.1
      refine Wc.seq ?_
      refine Wc.seq ?_
      refine Wc.reg ?_
      refine Wo.op (Step.move (by conv => lhs; whnf)) ?_
      refine Wo.op (Step.move (by conv => lhs; whnf)) ?_
      refine Wo.op (Step.lss rfl rfl) ?_
      refine Wo.nil ?_
      refine Wc.ite rfl (fun hc44 => ?_) (fun hc44 => ?_)
      · skip
        refine Wc.skip ?_
        refine Wc.seq ?_
        refine Wc.block ?_
        refine Wc.draw ?_
        refine Wd.pure rfl (Step.faddr rfl) ?_
        refine Wd.read rfl (Step.load rfl (by first | assumption | exact Own.row (by assumption)) (by rfl)) ?_
        refine Wd.pure rfl (Step.move (by conv => lhs; whnf)) ?_
        -- call made_Tape_Next
        refine Wd.call (Wf.mono (made_Tape_Next_ok (n := 2) gt hPT ⟨by omega, by omega⟩) ?_)
        rintro _ s3 ⟨r, rfl, hr0, hr1, c3, nx3, t3⟩
        have gO43 := gO4.chg c3 (by omega)
        have gO53 := gO5.chg c3 (by omega)
        have gLI3 := gLI.chg c3 (fun hc e => by omega)
        have gLP3 := gLP.chg c3 (fun hc e => by omega)
        have gLA3 := gLA.chg c3 (fun hc e => by have := gAN (by simpa using hc); omega)
        refine ⟨⟨fun _ => reread rfl (Own.row gO53) (by rfl) gLA.veq, trivial⟩, ?_⟩
        refine Wd.pure rfl (Step.eql (b := 1) rfl rfl) ?_
        refine Wd.app1 (A := AA) (cells := enB acc) (w := .bool (decide (r = 1))) rfl gLA3 rfl rfl (by simp) (by omega) (by simp; omega) (fun s' hp => ⟨fun _ => reread rfl (Own.row (gO53.pur hp)) (by rfl) gLA.veq, trivial⟩) ?_
        intro p53 vA2 s4 gLA4 c4 nx4
        have hnA : ∀ B, B < sx0.nextId → ¬ (B = AA ∧ enB acc ≠ []) := fun B hB hh => by have := gAN (by simpa using hh.2); omega
        have gO44 := gO43.chg c4 (hnA _ (by omega))
        have gO54 := gO53.chg c4 (hnA _ (by omega))
        have t4 : MTape P s4 T := t3.chg c4 (hnA _ (by omega)) (fun A hA => hnA A (by have := hPN A hA; omega))
        have gLI4 := gLI3.chg c4 (fun hc => hnA _ (by omega))
        have gLP4 := gLP3.chg c4 (fun hc => hnA _ (by omega))
        refine ⟨⟨fun h => absurd h (by omega), trivial⟩, ?_⟩
        refine Wd.pure rfl (Step.faddr rfl) ?_
        refine Wd.store rfl (by first | exact Sl.cell (by assumption) | exact Lst.cell (by assumption) | (conv => lhs; whnf)) (by rfl) (by first | rfl | exact Sl.one (by assumption) | exact Lst.one (by assumption) | exact ones3 (Sl.one (by assumption)) (Sl.one (by assumption)) (Sl.one (by assumption))) (by assumption) (by rfl) ?_
        intro sS2 wS2 oS2 nS2
        refine ⟨by simp, ?_⟩
        have gLA5 := gLA4.chg wS2 (fun hc e => by omega)
        have gLI5 := gLI4.chg wS2 (fun hc e => by omega)
        have gLP5 := gLP4.chg wS2 (fun hc e => by omega)
        have gO45 := gO44.chg wS2 (by omega)
        have gt5 : MTape P sS2 T := t4.chg wS2 (by omega) (fun A hA e => by have := hPN A hA; omega)
        have ge5 : Wrt T s sS2 := ((ge.trans c3).step c4 (fun B hB hh => absurd hh (hnA B (by omega)))).step wS2 (fun B hB hh => by omega)
        refine Wd.nil ?_
        refine Wc.reg ?_
        refine Wo.op (Step.move (by conv => lhs; whnf)) ?_
        refine Wo.op (Step.add (b := 1) rfl rfl (by omega)) ?_
        refine Wo.op (Step.move (by conv => lhs; whnf)) ?_
        refine Wo.nil ?_
        refine ⟨_, ?_, q + 1, vA2, acc ++ [decide (r = 1)], s3.nextId + 1, rfl, rfl, rfl, rfl, rfl, rfl, ge5, gt5, gO45, oS2, gLI5, gLP5, by simpa [enB] using gLA5, fun _ => by omega, by omega, by simp; omega⟩
        omega
      · skip
        refine Wc.exit ?_
        refine .inl ⟨rfl, ?_⟩
        exact ⟨vA, acc, AA, rfl, rfl, ge, gt, gO4, gO5, gLI, gLP, gLA, gAN, by omega⟩
    · intro ρx2 sx2 hP
      obtain ⟨vA, acc, AA, e4, e5, ge, gt, gO4, gO5, gLI, gLP, gLA, gAN, gq⟩ := hP
      show Wc _ _ _ _ _ _ _
      refine Wc.fix (k := 4) e4 ?_
      refine Wc.fix (k := 5) e5 ?_
      have gTl := ht.lt
      have gC4 := hO4.1
      have gC5 := hO5.1
      have fI : IsInts sx2 (fun A => s.nextId ≤ A ∧ A ≠ s.nextId) vI idx := gLI.ints (fun _ => by omega)
      have fP : IsInts sx2 (fun A => s.nextId ≤ A ∧ A ≠ s.nextId) vP per := gLP.ints (fun _ => by omega)
      have fA : IsBools sx2 (fun A => s.nextId ≤ A ∧ A ≠ s.nextId) vA acc := gLA.bools (fun h => by have := gAN h; omega)
      refine Wc.seq ?_
      refine Wc.reg ?_
      refine Wo.op (Step.loadN rfl (by first | assumption | exact Own.row (by assumption)) (by rfl)) ?_
      refine Wo.store rfl (by first | exact Sl.cell (by assumption) | exact Lst.cell (by assumption) | (conv => lhs; whnf)) (by rfl) (by first | rfl | exact Sl.one (by assumption) | exact Lst.one (by assumption) | exact ones3 (Sl.one (by assumption)) (Sl.one (by assumption)) (Sl.one (by assumption))) (by assumption) (by rfl) ?_
      intro sS3 wS3 oS3 nS3
      have fI2 := fI.chg wS3 (fun A hA e => hA.2 e)
      have fP2 := fP.chg wS3 (fun A hA e => hA.2 e)
      have fA2 := fA.chg wS3 (fun A hA e => hA.2 e)
      have ge5 : Wrt T s sS3 := ge.step wS3 (fun B hB hh => by omega)
      have gt5 : MTape P sS3 T := gt.chg wS3 (by omega) (fun A hA e => by have := hPN A hA; omega)
      refine Wo.nil ?_
      refine Wc.ret ?_
      exact ⟨_, Rs.cells rfl (Row.cells (Own.row oS3)) (by rfl) Rs.nil, vI, vP, vA, idx, per, acc, rfl, fI2.mono (fun A _ h => h.1), fP2.mono (fun A _ h => h.1), fA2.mono (fun A _ h => h.1), hg, by omega, hri, hrp, by omega, by omega, ge5, gt5⟩
theorem law37_known_ok {s : St} : Wf kprog n_law37_known [] s (fun v s' => v = .bool true ∧ s = s') := by
  refine Wf.of p_law37_known rfl ?_
  refine Wc.reg (Wo.op (Step.move rfl) (Wo.nil ?_))
  exact ⟨_, Rs.tmp rfl Rs.nil, rfl, rfl⟩
theorem law37_CountingOrder_ok {s : St} {P : Nat → Prop} {v0 v1 v2 : Value} {l0 l1 l2 : List Int} (h0 : IsInts s P v0 l0) (h1 : IsInts s P v1 l1) (h2 : IsInts s P v2 l2) (hP : ∀ A, P A → A < s.nextId)
    (b0 : l0.length ≤ 281474976710656) (b1 : l1.length ≤ 281474976710656) (b2 : l2.length ≤ 281474976710656) (w0 : ∀ n ∈ l0, I64 n) (w1 : ∀ n ∈ l1, I64 n) (w2 : ∀ n ∈ l2, I64 n) :
    Wf kprog n_law37_CountingOrder [v0, v1, v2] s (fun v s' => v = .bool true) := by
  refine Wf.of p_law37_CountingOrder rfl ?_
  unfold c_law37_CountingOrder
  refine Wc.seq ?_
  refine Wc.reg ?_
  refine Wo.op (Step.move (by conv => lhs; whnf)) ?_
  refine Wo.nil ?_
  refine Wc.seq ?_
  refine Wc.reg ?_
  refine Wo.op (Step.move (by conv => lhs; whnf)) ?_
  -- call made_New
  refine Wo.call (Wf.mono (made_New_ok h0 b0 w0) ?_)
  rintro _ s1 ⟨rfl, c1, n1, t1⟩
  have h1 := h1.pur c1
  have h2 := h2.pur c1
  refine Wo.op (Step.move (by conv => lhs; whnf)) ?_
  refine Wo.nil ?_
  refine Wc.seq ?_
  refine Wc.reg ?_
  refine Wo.op (Step.move (by conv => lhs; whnf)) ?_
  -- call made_Tape_Next
  have hPT : ¬ P s.nextId := fun h => by have := hP _ h; omega
  refine Wo.call (Wf.mono (made_Tape_Next_ok (n := 3) t1 hPT ⟨by omega, by omega⟩) ?_)
  rintro _ s2 ⟨r, rfl, hr0, hr1, c2, n2, t2⟩
  have h1 := h1.chg c2 (fun A hA e => by have := hP A hA; omega)
  have h2 := h2.chg c2 (fun A hA e => by have := hP A hA; omega)
  refine Wo.op (Step.add (a := 1) rfl rfl (by omega)) ?_
  refine Wo.op (Step.move (by conv => lhs; whnf)) ?_
  refine Wo.nil ?_
  refine Wc.seq ?_
  refine Wc.reg ?_
  refine Wo.op (Step.move (by conv => lhs; whnf)) ?_
  refine Wo.op (Step.move (by conv => lhs; whnf)) ?_
  -- call made_Tape_Counts
  refine Wo.call (Wf.mono (made_Tape_Counts_ok (k := 1 + r) t2 hPT (fun A hA => by have := hP A hA; omega) ⟨by omega, by omega⟩) ?_)
  rintro _ s3 ⟨vI, vP, vA, idx, per, acc, rfl, fI, fP, fA, hg, hl, hri, hrp, hp, hacc, c3, t3⟩
  have h1 := h1.chg c3 (fun A hA e => by have := hP A hA; omega)
  have h2 := h2.chg c3 (fun A hA e => by have := hP A hA; omega)
  have n3 := c3.1
  have fI : IsInts s3 (fun A => A < s3.nextId) vI idx := fI.mono (fun A h _ => h)
  have fP : IsInts s3 (fun A => A < s3.nextId) vP per := fP.mono (fun A h _ => h)
  have fA : IsBools s3 (fun A => A < s3.nextId) vA acc := fA.mono (fun A h _ => h)
  refine Wo.alloc ?_
  intro s4 c4 o4 n4
  have h1 := h1.pur c4
  have h2 := h2.pur c4
  have fI := fI.pur c4
  have fP := fP.pur c4
  have fA := fA.pur c4
  refine Wo.store rfl (by first | exact Sl.cell (by assumption) | exact Lst.cell (by assumption) | (conv => lhs; whnf)) (by rfl) (by first | rfl | exact Sl.one (by assumption) | exact Lst.one (by assumption) | exact ones3 (Sl.one (by assumption)) (Sl.one (by assumption)) (Sl.one (by assumption))) (by assumption) (by rfl) ?_
  intro sS0 wS0 oS0 nS0
  have o5 := oS0
  have h1 := h1.chg wS0 (fun A hA e => by have := hP A hA; omega)
  have h2 := h2.chg wS0 (fun A hA e => by have := hP A hA; omega)
  have fI := fI.chg wS0 (fun A hA e => by omega)
  have fP := fP.chg wS0 (fun A hA e => by omega)
  have fA := fA.chg wS0 (fun A hA e => by omega)
  refine Wo.nil ?_
  refine Wc.seq ?_
  refine Wc.reg ?_
  refine Wo.op (Step.move (by conv => lhs; whnf)) ?_
  -- call made_New
  refine Wo.call (Wf.mono (made_New_ok h1 b1 w1) ?_)
  rintro _ s6 ⟨rfl, c6, n6, t6⟩
  have h2 := h2.pur c6
  have fI := fI.pur c6
  have fP := fP.pur c6
  have fA := fA.pur c6
  have o5 := o5.pur c6
  refine Wo.op (Step.move (by conv => lhs; whnf)) ?_
  -- call made_Tape_Word
  have hPT2 : ¬ P sS0.nextId := fun h => by have := hP _ h; omega
  refine Wo.call (Wf.mono (made_Tape_Word_ok (k := 1 + r) (most := 16) t6 hPT2 (fun A hA => by have := hP A hA; omega) ⟨by omega, by omega⟩ ⟨by omega, by omega⟩) ?_)
  rintro _ s7 ⟨w, rfl, hwl, hwm, c7, t7⟩
  have h2 := h2.chg c7 (fun A hA e => by have := hP A hA; omega)
  have fI := fI.chg c7 (fun A hA e => by omega)
  have fP := fP.chg c7 (fun A hA e => by omega)
  have fA := fA.chg c7 (fun A hA e => by omega)
  have o5 := o5.chg c7 (by omega)
  have n7 := c7.1
  have hwl : w.length ≤ 16 := hwl
  refine Wo.bytesOf rfl ?_
  intro sY27 eY27 oY27 nY27
  have h2 := h2.pur eY27
  have fI := fI.pur eY27
  have fP := fP.pur eY27
  have fA := fA.pur eY27
  have o5 := o5.pur eY27
  have oW : Own sY27 s7.nextId 1 (enU w) := oY27
  have hB : IsBytes sY27 (fun A => A = s7.nextId) (.slice (some ⟨s7.nextId, 0, none⟩) w.length w.length) w := Sl.of_own oW rfl (by simp)
  refine Wo.op (Step.move (by conv => lhs; whnf)) ?_
  refine Wo.nil ?_
  refine Wc.seq ?_
  refine Wc.reg ?_
  refine Wo.op (Step.loadN rfl (by first | assumption | exact Own.row (by assumption)) (by rfl)) ?_
  refine Wo.op (Step.move (by conv => lhs; whnf)) ?_
  refine Wo.op (Step.strOf rfl (by assumption)) ?_
  -- call counting_Match
  refine Wo.call (Wf.mono (counting_Match_ok fI fP fA (by omega)) ?_)
  rintro _ s8 ⟨rfl, c8⟩
  have h2 := h2.pur c8
  have fI := fI.pur c8
  have fP := fP.pur c8
  have fA := fA.pur c8
  have o5 := o5.pur c8
  have oW := oW.pur c8
  have n8 := c8.1
  refine Wo.op (Step.move (by conv => lhs; whnf)) ?_
  refine Wo.nil ?_
  refine Wc.seq ?_
  refine Wc.reg ?_
  refine Wo.op (Step.move (by conv => lhs; whnf)) ?_
  -- call made_New
  refine Wo.call (Wf.mono (made_New_ok h2 b2 w2) ?_)
  rintro _ s9 ⟨rfl, c9, n9, t9⟩
  have fI := fI.pur c9
  have fP := fP.pur c9
  have fA := fA.pur c9
  have o5 := o5.pur c9
  have oW := oW.pur c9
  have hB : IsBytes s9 (fun A => A = s7.nextId) (.slice (some ⟨s7.nextId, 0, none⟩) w.length w.length) w := Sl.of_own oW rfl (by simp)
  have hPT3 : ¬ P s8.nextId := fun h => by have := hP _ h; omega
  refine Wo.op (Step.move (by conv => lhs; whnf)) ?_
  refine Wo.nil ?_
  refine Wc.seq ?_
  refine Wc.seq ?_
  refine Wc.reg ?_
  refine Wo.op (Step.move (by conv => lhs; whnf)) ?_
  refine Wo.op (Step.lenSl rfl (by assumption)) ?_
  refine Wo.op (Step.move (by conv => lhs; whnf)) ?_
  refine Wo.nil ?_
  refine Wc.mid (fun ρ' s' => ∃ (xs : List UInt8), (ρ' 9 = ptrV s3.nextId 0) ∧ (ρ' 10 = .slice (some ⟨s7.nextId, 0, none⟩) w.length w.length) ∧ (ρ' 11 = .bool (matchF idx per acc w)) ∧ (Own s' s7.nextId 1 (enU xs)) ∧ (SameW xs w) ∧ (Own s' s3.nextId 0 [vI, vP, vA]) ∧ (IsInts s' (fun A => A < s3.nextId) vI idx) ∧ (IsInts s' (fun A => A < s3.nextId) vP per) ∧ (IsBools s' (fun A => A < s3.nextId) vA acc)) (Wc.block (Wc.loop (fun m ρ' s' => ∃ (i : Nat) (xs : List UInt8), (ρ' 9 = ptrV s3.nextId 0) ∧ (ρ' 10 = .slice (some ⟨s7.nextId, 0, none⟩) w.length w.length) ∧ (ρ' 11 = .bool (matchF idx per acc w)) ∧ (ρ' 12 = ptrV s8.nextId 0) ∧ (ρ' 35 = .int .i64 ((w.length : Nat) : Int)) ∧ (ρ' 36 = .int .i64 ((i : Nat) : Int)) ∧ (m = w.length - i) ∧ (Own s' s7.nextId 1 (enU xs)) ∧ (SameW xs w) ∧ (Own s' s3.nextId 0 [vI, vP, vA]) ∧ (IsInts s' (fun A => A < s3.nextId) vI idx) ∧ (IsInts s' (fun A => A < s3.nextId) vP per) ∧ (IsBools s' (fun A => A < s3.nextId) vA acc) ∧ (MTape P s' s8.nextId) ∧ (i ≤ w.length)) ?_ ?_)) ?_
  · exact ⟨_, 0, w, rfl, rfl, rfl, rfl, rfl, rfl, rfl, oW, ⟨rfl, fun _ => rfl⟩, o5, fI, fP, fA, t9, by omega⟩
  · intro m ρ0 s0 hI
    obtain ⟨i, xs, e9, e10, e11, e12, e35, e36, hm, oW, hsw, o5, fI, fP, fA, t9, hi⟩ := hI
    refine Wc.fix (k := 9) e9 ?_
    refine Wc.fix (k := 10) e10 ?_
    refine Wc.fix (k := 11) e11 ?_
    refine Wc.fix (k := 12) e12 ?_
    refine Wc.fix (k := 35) e35 ?_
    refine Wc.fix (k := 36) e36 ?_
    have hxl := hsw.1
    have hB : IsBytes s0 (fun A => A = s7.nextId) (.slice (some ⟨s7.nextId, 0, none⟩) w.length w.length) xs := by
      have : Sl s0 (fun A => A = s7.nextId) 1 (.slice (some ⟨s7.nextId, 0, none⟩) w.length w.length) w.length (enU xs) := Sl.of_own oW rfl (by simp; omega)
      unfold IsBytes
      rw [hxl]; exact this
    refine Wc.seq ?_
    refine Wc.reg ?_
    refine Wo.op (Step.lss rfl rfl) ?_
    refine Wo.nil ?_
    refine Wc.seq ?_
    refine Wc.ite rfl (fun hc37 => ?_) (fun hc37 => ?_)
    · skip
      refine Wc.skip ?_
      refine Wc.seq ?_
      refine Wc.block ?_
      refine Wc.seq ?_
      refine Wc.reg ?_
      refine Wo.op (Step.move (by conv => lhs; whnf)) ?_
      refine Wo.op (Step.move (by conv => lhs; whnf)) ?_
      refine Wo.nil ?_
      refine Wc.seq ?_
      refine Wc.reg ?_
      refine Wo.op (Step.move (by conv => lhs; whnf)) ?_
      refine Wo.op (Step.move (by conv => lhs; whnf)) ?_
      refine Wo.op (Step.move (by conv => lhs; whnf)) ?_
      refine Wo.op (Step.lenSl rfl (by assumption)) ?_
      refine Wo.op (Step.move (by conv => lhs; whnf)) ?_
      refine Wo.op (Step.sub rfl rfl (by omega)) ?_
      -- call made_Tape_Next
      refine Wo.call (Wf.mono (made_Tape_Next_ok t9 hPT3 ⟨by omega, by omega⟩) ?_)
      rintro _ s10 ⟨q, rfl, hq0, hq1, c10, n10, t10⟩
      have oW := oW.chg c10 (by omega)
      have o5 := o5.chg c10 (by omega)
      have fI := fI.chg c10 (fun A hA e => by omega)
      have fP := fP.chg c10 (fun A hA e => by omega)
      have fA := fA.chg c10 (fun A hA e => by omega)
      have hB := hB.chg c10 (fun A hA e => by omega)
      have hsw2 := hsw.swap (i := i) (j := ((i : Nat) : Int) + q) ⟨by omega, by omega⟩ ⟨by omega, by omega⟩
      refine Wo.op (Step.add rfl rfl (by omega)) ?_
      refine Wo.op (Step.move (by conv => lhs; whnf)) ?_
      refine Wo.nil ?_
      refine Wc.draw ?_
      refine Wd.pure rfl (Step.move (by conv => lhs; whnf)) ?_
      refine Wd.pure rfl (Step.move (by conv => lhs; whnf)) ?_
      refine Wd.pure rfl (Step.move (by conv => lhs; whnf)) ?_
      refine Wd.pure rfl (Step.move (by conv => lhs; whnf)) ?_
      refine Wd.pure rfl (Step.move (by conv => lhs; whnf)) ?_
      refine Wd.pure rfl (Step.move (by conv => lhs; whnf)) ?_
      first | refine Wd.idxI rfl (by assumption) rfl (by omega) (by omega) ?_ | refine Wd.idxB rfl (by assumption) rfl (by omega) (by omega) ?_ | refine Wd.idxU rfl (by assumption) rfl (by omega) (by omega) ?_
      intro p53
      refine Wd.pure rfl (Step.move (by conv => lhs; whnf)) ?_
      refine Wd.pure rfl (Step.move (by conv => lhs; whnf)) ?_
      first | refine Wd.idxI rfl (by assumption) rfl (by omega) (by omega) ?_ | refine Wd.idxB rfl (by assumption) rfl (by omega) (by omega) ?_ | refine Wd.idxU rfl (by assumption) rfl (by omega) (by omega) ?_
      intro p57
      refine Wd.pure rfl (Step.iaddrO rfl rfl (by omega) (by omega)) ?_
      refine Wd.store rfl (by rfl) (by rfl) (by rfl) oW (spl_setU (by omega) (by omega)) ?_
      intro sT1 wT1 oT1 nT1
      refine ⟨by simp, ?_⟩
      have o5 := o5.chg wT1 (by omega)
      have fI := fI.chg wT1 (fun A hA e => by omega)
      have fP := fP.chg wT1 (fun A hA e => by omega)
      have fA := fA.chg wT1 (fun A hA e => by omega)
      have t10 : MTape P sT1 s8.nextId := t10.chg wT1 (by omega) (fun A hA e => by have := hP A hA; omega)
      refine Wd.pure rfl (Step.iaddrO rfl rfl (by omega) (by omega)) ?_
      refine Wd.store rfl (by rfl) (by rfl) (by rfl) oT1 (spl_setU (by omega) (by simp; omega)) ?_
      intro sT2 wT2 oT2 nT2
      refine ⟨by simp, ?_⟩
      refine Wd.nil ?_
      refine Wc.reg ?_
      refine Wo.op (Step.add (b := 1) rfl rfl (by omega)) ?_
      refine Wo.op (Step.move (by conv => lhs; whnf)) ?_
      refine Wo.nil ?_
      refine ⟨_, ?_, i + 1, _, rfl, rfl, rfl, rfl, rfl, rfl, rfl, oT2, hsw2, o5.chg wT2 (by omega), fI.chg wT2 (fun A hA e => by omega), fP.chg wT2 (fun A hA e => by omega), fA.chg wT2 (fun A hA e => by omega), t10.chg wT2 (by omega) (fun A hA e => by have := hP A hA; omega), by omega⟩
      omega
    · skip
      refine Wc.exit ?_
      refine .inl ⟨rfl, ?_⟩
      exact ⟨xs, rfl, rfl, rfl, oW, hsw, o5, fI, fP, fA⟩
  · intro ρx0 sx0 hP
    obtain ⟨xs, e9, e10, e11, oW, hsw, o5, fI, fP, fA⟩ := hP
    show Wc _ _ _ _ _ _ _
    refine Wc.fix (k := 9) e9 ?_
    refine Wc.fix (k := 10) e10 ?_
    refine Wc.fix (k := 11) e11 ?_
    have hxl := hsw.1
    have hB : IsBytes sx0 (fun A => A = s7.nextId) (.slice (some ⟨s7.nextId, 0, none⟩) w.length w.length) xs := by
      have : Sl sx0 (fun A => A = s7.nextId) 1 (.slice (some ⟨s7.nextId, 0, none⟩) w.length w.length) w.length (enU xs) := Sl.of_own oW rfl (by simp; omega)
      unfold IsBytes
      rw [hxl]; exact this
    refine Wc.seq ?_
    refine Wc.reg ?_
    refine Wo.op (Step.loadN rfl (by first | assumption | exact Own.row (by assumption)) (by rfl)) ?_
    refine Wo.op (Step.move (by conv => lhs; whnf)) ?_
    refine Wo.op (Step.strOf rfl (by assumption)) ?_
    -- call counting_Match
    refine Wo.call (Wf.mono (counting_Match_ok fI fP fA (by omega)) ?_)
    rintro _ s11 ⟨rfl, c11⟩
    refine Wo.op (Step.move (by conv => lhs; whnf)) ?_
    refine Wo.op (Step.eqB rfl rfl) ?_
    refine Wo.op (Step.move (by conv => lhs; whnf)) ?_
    refine Wo.cases (j := 68) rfl (fun hc68 => ?_) (fun hc68 => ?_)
    · skip
      refine Wo.on rfl ?_
      -- call law37_known
      refine Wo.call (Wf.mono law37_known_ok ?_)
      rintro _ s12 ⟨rfl, rfl⟩
      refine Wo.op (Step.pickT rfl (by conv => lhs; whnf)) ?_
      refine Wo.op (Step.move (by conv => lhs; whnf)) ?_
      refine Wo.nil ?_
      refine Wc.ret ⟨_, Rs.tmp (by conv => lhs; whnf) (Rs.nil), ?_⟩
      rfl
    · skip
      exact absurd (hsw.match_eq idx per acc) hc68
end Go.EvK
end

section
set_option linter.unusedVariables false
namespace Go.EvK
open Go Go.Ev Go.EvW Go.Co Go.RowKit
theorem countingOrder_calls (W : World) {a0 a1 a2 : Option Addr} {len0 cap0 len1 cap1 len2 cap2 : Nat} {z0 z1 z2 : List Int} (h0 : InRow W a0 len0 cap0 z0) (h1 : InRow W a1 len1 cap1 z1) (h2 : InRow W a2 len2 cap2 z2)
    (y0 : len0 * 8 ≤ 140737488351232) (y1 : len1 * 8 ≤ 140737488351232) (y2 : len2 * 8 ≤ 140737488351232) :
    Calls Go.Proofs.Try.prog 5 #[.slice a0 len0 cap0, .slice a1 len1 cap1, .slice a2 len2 cap2] W fun e W' => e = .returned (.bool true) ∧ Below W.heap.size W W' := by
  obtain ⟨β0, s0, v0, w0, l0, r0, p0, i0, n0, q0⟩ := (WR.start W).inputI rfl h0
  obtain ⟨β1, s1, v1, w1, l1, r1, p1, i1, n1, q1⟩ := w0.inputI rfl h1
  obtain ⟨β2, s2, v2, w2, l2, r2, p2, i2, n2, q2⟩ := w1.inputI rfl h2
  have j0 : IsInts s2 (fun A => A < s2.nextId) v0 (z0.take len0) := ((i0.pur p1).pur p2).mono (fun A h _ => h)
  have j1 : IsInts s2 (fun A => A < s2.nextId) v1 (z1.take len1) := (i1.pur p2).mono (fun A h _ => h)
  exact calls_of mixed (kprog_ok Go.Ev.K37.known) w2 (.cons _ _ _ _ ((r0.mono l1).mono l2) (.cons _ _ _ _ (r1.mono l2) (.cons _ _ _ _ r2 .nil)))
    (law37_CountingOrder_ok j0 j1 i2 (fun A h => h) (by omega) (by omega) (by omega) q0 q1 q2)
end Go.EvK
end
