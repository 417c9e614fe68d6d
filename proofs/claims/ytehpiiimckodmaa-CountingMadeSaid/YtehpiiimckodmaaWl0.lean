/- Walks: made arguments, counters, machines, small references. -/
import Derived.Test.YtehpiiimckodmaaEv5
import Derived.Test.YtehpiiimckodmaaKC
import Derived.Test.YtehpiiimckodmaaEw1
set_option linter.unusedVariables false
set_option linter.unusedSimpArgs false
section
set_option linter.unusedVariables false
set_option maxRecDepth 100000
set_option maxHeartbeats 4000000
namespace Go.EvK
open Go Go.Ev Go.EvW Go.Co
theorem made_Mod_ok {s : St} {x n : Int} (hx : -9223372036854775808 ≤ x ∧ x < 9223372036854775808) (hn : n < 9223372036854775808) :
    Wf kprog n_made_Mod [.int .i64 x, .int .i64 n] s (fun v s' => v = .int .i64 (if n < 1 then 0 else x % n) ∧ s = s') := by
  refine Wf.of p_made_Mod rfl ?_
  unfold c_made_Mod
  refine Wc.seq ?_; refine Wc.reg ?_; refine Wo.op (Step.move (by conv => lhs; whnf)) ?_; refine Wo.nil ?_; refine Wc.seq ?_; refine Wc.seq ?_; refine Wc.reg ?_; refine Wo.op (Step.move (by conv => lhs; whnf)) ?_; refine Wo.op (Step.lss (b := 1) rfl rfl) ?_; refine Wo.nil ?_; refine Wc.ite rfl (fun hc6 => ?_) (fun hc6 => ?_)
  · refine Wc.seq ?_; refine Wc.reg ?_; refine Wo.op (Step.move (by conv => lhs; whnf)) ?_; refine Wo.nil ?_; refine Wc.ret ⟨_, Rs.tmp (by conv => lhs; whnf) (Rs.nil), ?_⟩
    exact ⟨by rw [if_pos (by omega)]; rfl, rfl⟩
  · refine Wc.skip ?_; refine Wc.seq ?_; refine Wc.reg ?_; refine Wo.op (Step.move (by conv => lhs; whnf)) ?_; refine Wo.op (Step.move (by conv => lhs; whnf)) ?_; refine Wo.op (Step.remw rfl rfl (by omega)) ?_
    have hm : x.tmod n = if 0 ≤ x ∨ n ∣ x then x % n else x % n - n := by rw [Int.tmod_eq_emod]; split <;> simp [Int.natAbs_of_nonneg (show 0 ≤ n by omega)] <;> omega
    have hm1 := Int.emod_nonneg x (show n ≠ 0 by omega)
    have hm2 := Int.emod_lt_of_pos x (show 0 < n by omega)
    refine Wo.op (Step.move (by conv => lhs; whnf)) ?_; refine Wo.nil ?_; refine Wc.seq ?_; refine Wc.seq ?_; refine Wc.reg ?_; refine Wo.op (Step.move (by conv => lhs; whnf)) ?_; refine Wo.op (Step.lss (b := 0) rfl rfl) ?_; refine Wo.nil ?_; refine Wc.ite rfl (fun hc11 => ?_) (fun hc11 => ?_)
    · refine Wc.reg ?_; refine Wo.op (Step.move (by conv => lhs; whnf)) ?_; refine Wo.op (Step.move (by conv => lhs; whnf)) ?_; refine Wo.op (Step.add rfl rfl (by omega)) ?_; refine Wo.op (Step.move (by conv => lhs; whnf)) ?_; refine Wo.nil ?_; refine Wc.seq ?_; refine Wc.reg ?_; refine Wo.op (Step.move (by conv => lhs; whnf)) ?_; refine Wo.op (Step.move (by conv => lhs; whnf)) ?_; refine Wo.nil ?_; refine Wc.ret ⟨_, Rs.tmp (by conv => lhs; whnf) (Rs.nil), ?_⟩
      exact ⟨congrArg (Value.int .i64) (by rw [if_neg (by omega), hm]; split <;> omega), rfl⟩
    · refine Wc.skip ?_; refine Wc.seq ?_; refine Wc.reg ?_; refine Wo.op (Step.move (by conv => lhs; whnf)) ?_; refine Wo.op (Step.move (by conv => lhs; whnf)) ?_; refine Wo.nil ?_; refine Wc.ret ⟨_, Rs.tmp (by conv => lhs; whnf) (Rs.nil), ?_⟩
      exact ⟨congrArg (Value.int .i64) (by rw [if_neg (by omega), hm]; split <;> omega), rfl⟩
theorem made_New_ok {s : St} {P : Nat → Prop} {v : Value} {l : List Int} (h : IsInts s P v l) (hl : l.length ≤ 281474976710656) (hw : ∀ n ∈ l, I64 n) :
    Wf kprog n_made_New [v] s (fun v s' => v = ptrV s.nextId 0 ∧ Pur s s' ∧ s'.nextId = s.nextId + 1 ∧ MTape P s' s.nextId) := by
  refine Wf.of p_made_New rfl ?_
  unfold c_made_New
  refine Wc.seq ?_; refine Wc.reg ?_; refine Wo.op (Step.move (by conv => lhs; whnf)) ?_; refine Wo.nil ?_; refine Wc.seq ?_; refine Wc.seq ?_; refine Wc.reg ?_; refine Wo.op (Step.move (by conv => lhs; whnf)) ?_; refine Wo.op (Step.lenSl rfl (by assumption)) ?_; refine Wo.op (Step.gtr (b := 80) rfl rfl) ?_; refine Wo.nil ?_; refine Wc.ite rfl (fun hc5 => ?_) (fun hc5 => ?_)
  · refine Wc.reg ?_; refine Wo.op (Step.move (by conv => lhs; whnf)) ?_; refine Wo.slice rfl (by assumption) Bnd.none (Bnd.some (i := 80) rfl (by omega)) (by omega) (by omega) ?_; intro vS7 hS7
    have hI7 := Sl.cutI (l := 0) (h := 80) (by omega) (by omega) hS7
    refine Wo.op (Step.move (by conv => lhs; whnf)) ?_; refine Wo.nil ?_; refine Wc.seq ?_; refine Wc.reg ?_; refine Wo.op (Step.move (by conv => lhs; whnf)) ?_; refine Wo.op (Step.buildF (Fill.cons (by conv => lhs; whnf) (by first | exact Sl.cell (by assumption) | exact Lst.cell (by assumption) | rfl) (by rfl) (by rfl) (Fill.nil _))) ?_; refine Wo.box (by conv => lhs; whnf) ?_; intro sB10 eB10 oB10 nB10; refine Wo.op (Step.move (by conv => lhs; whnf)) ?_; refine Wo.nil ?_; refine Wc.ret ⟨_, Rs.tmp (by conv => lhs; whnf) (Rs.nil), ?_⟩
    exact ⟨rfl, eB10, nB10, _, _, 0, oB10, hI7.pur eB10, by omega, by simp; omega, fun n hn => hw n (List.mem_of_mem_take (by simpa using hn))⟩
  · refine Wc.skip ?_; refine Wc.seq ?_; refine Wc.reg ?_; refine Wo.op (Step.move (by conv => lhs; whnf)) ?_; refine Wo.op (Step.buildF (Fill.cons (by conv => lhs; whnf) (by first | exact Sl.cell (by assumption) | exact Lst.cell (by assumption) | rfl) (by rfl) (by rfl) (Fill.nil _))) ?_; refine Wo.box (by conv => lhs; whnf) ?_; intro sB10 eB10 oB10 nB10; refine Wo.op (Step.move (by conv => lhs; whnf)) ?_; refine Wo.nil ?_; refine Wc.ret ⟨_, Rs.tmp (by conv => lhs; whnf) (Rs.nil), ?_⟩
    exact ⟨rfl, eB10, nB10, _, _, 0, oB10, h.pur eB10, by omega, by omega, hw⟩
theorem made_Tape_Next_ok {s : St} {P : Nat → Prop} {T : Nat} {n : Int} (h : MTape P s T) (hPT : ¬ P T) (hn : I64 n) :
    Wf kprog n_made_Tape_Next [ptrV T 0, .int .i64 n] s (fun v s' => ∃ r, v = .int .i64 r ∧ 0 ≤ r ∧ (r < n ∨ r = 0) ∧ Wrt T s s' ∧ s'.nextId = s.nextId ∧ MTape P s' T) := by
  obtain ⟨v, l, a, hO, hI, ha, hl, hw⟩ := h
  refine Wf.of p_made_Tape_Next rfl ?_
  unfold c_made_Tape_Next
  refine Wc.seq ?_; refine Wc.reg ?_; refine Wo.op (Step.move (by conv => lhs; whnf)) ?_; refine Wo.nil ?_; refine Wc.seq ?_; refine Wc.seq ?_; refine Wc.draw ?_; refine Wd.pure rfl (Step.move (by conv => lhs; whnf)) ?_; refine Wd.pure rfl (Step.nilCheck rfl) ?_; refine Wd.pure rfl (Step.faddr rfl) ?_; refine Wd.read rfl (Step.load rfl (by first | assumption | exact Own.row (by assumption)) (by rfl)) ?_; refine Wd.pure rfl (Step.move (by conv => lhs; whnf)) ?_; refine Wd.pure rfl (Step.nilCheck rfl) ?_; refine Wd.pure rfl (Step.faddr rfl) ?_; refine Wd.read rfl (Step.load rfl (by first | assumption | exact Own.row (by assumption)) (by rfl)) ?_; refine Wd.pure rfl (Step.lenSl rfl (by assumption)) ?_; refine Wd.pure rfl (Step.geq rfl rfl) ?_; refine Wd.nil ?_; refine Wc.ite rfl (fun hc14 => ?_) (fun hc14 => ?_)
  · refine Wc.seq ?_; refine Wc.reg ?_; refine Wo.op (Step.move (by conv => lhs; whnf)) ?_; refine Wo.nil ?_; refine Wc.ret ⟨_, Rs.tmp (by conv => lhs; whnf) (Rs.nil), ?_⟩
    exact ⟨0, rfl, by omega, by omega, Chg.refl _, rfl, v, l, a, hO, hI, ha, hl, hw⟩
  · refine Wc.skip ?_; refine Wc.seq ?_; refine Wc.reg ?_; refine Wo.op (Step.move (by conv => lhs; whnf)) ?_; refine Wo.op (Step.nilCheck rfl) ?_; refine Wo.op (Step.faddr rfl) ?_; refine Wo.op (Step.load rfl (by first | assumption | exact Own.row (by assumption)) (by rfl)) ?_; refine Wo.op (Step.add (b := 1) rfl rfl (by omega)) ?_; refine Wo.op (Step.nilCheck rfl) ?_; refine Wo.op (Step.faddr rfl) ?_; refine Wo.store rfl (by first | exact Sl.cell (by assumption) | exact Lst.cell (by assumption) | (conv => lhs; whnf)) (by rfl) (by first | rfl | exact Sl.one (by assumption) | exact Lst.one (by assumption) | exact ones3 (Sl.one (by assumption)) (Sl.one (by assumption)) (Sl.one (by assumption))) (by assumption) (by rfl) ?_; intro sS0 wS0 oS0 nS0
    have hIs := hI.chg wS0 (fun A hA e => hPT (e ▸ hA))
    refine Wo.nil ?_; refine Wc.seq ?_; refine Wc.draw ?_; refine Wd.pure rfl (Step.move (by conv => lhs; whnf)) ?_; refine Wd.pure rfl (Step.nilCheck rfl) ?_; refine Wd.pure rfl (Step.faddr rfl) ?_; refine Wd.read rfl (Step.load rfl (by first | assumption | exact Own.row (by assumption)) (by rfl)) ?_; refine Wd.pure rfl (Step.move (by conv => lhs; whnf)) ?_; refine Wd.pure rfl (Step.nilCheck rfl) ?_; refine Wd.pure rfl (Step.faddr rfl) ?_; refine Wd.read rfl (Step.load rfl (by first | assumption | exact Own.row (by assumption)) (by rfl)) ?_; refine Wd.pure rfl (Step.sub (b := 1) rfl rfl (by omega)) ?_
    have hgi := hw _ (geti_mem (xs := l) (i := ((a : Nat) : Int) + 1 - 1) (by omega) (by omega))
    first | refine Wd.idxI rfl (by assumption) rfl (by omega) (by omega) ?_ | refine Wd.idxB rfl (by assumption) rfl (by omega) (by omega) ?_ | refine Wd.idxU rfl (by assumption) rfl (by omega) (by omega) ?_
    intro p31; refine Wd.pure rfl (Step.move (by conv => lhs; whnf)) ?_
    -- call made_Mod
    refine Wd.call (Wf.mono (made_Mod_ok hgi hn.2) ?_)
    rintro _ s2 ⟨rfl, rfl⟩
    refine ⟨by simp, ?_⟩
    have hm1 := fun h => Int.emod_nonneg (geti l (((a : Nat) : Int) + 1 - 1)) (show n ≠ 0 from h)
    have hm2 := fun h => Int.emod_lt_of_pos (geti l (((a : Nat) : Int) + 1 - 1)) (show 0 < n from h)
    refine Wd.pure rfl (Step.move (by conv => lhs; whnf)) ?_; refine Wd.nil ?_; refine Wc.ret ⟨_, Rs.tmp (by conv => lhs; whnf) (Rs.nil), ?_⟩
    exact ⟨_, rfl, by split <;> omega, by split <;> omega, wS0, nS0, v, l, a + 1, oS0, hIs, by omega, hl, hw⟩
theorem made_Tape_Word_ok {s : St} {P : Nat → Prop} {T : Nat} {k most : Int} (h : MTape P s T) (hPT : ¬ P T) (hPN : ∀ A, P A → A < s.nextId) (hk : 1 ≤ k ∧ k ≤ 26) (hm : 0 ≤ most ∧ most ≤ 1000) :
    Wf kprog n_made_Tape_Word [ptrV T 0, .int .i64 k, .int .i64 most] s (fun v s' => ∃ w : List UInt8, v = .string ⟨⟨w⟩⟩ ∧ w.length ≤ most.toNat ∧ Made w k ∧ Wrt T s s' ∧ MTape P s' T) := by
  refine Wf.of p_made_Tape_Word rfl ?_
  unfold c_made_Tape_Word
  refine Wc.seq ?_; refine Wc.reg ?_; refine Wo.op (Step.move (by conv => lhs; whnf)) ?_; refine Wo.nil ?_; refine Wc.seq ?_; refine Wc.reg ?_; refine Wo.op (Step.move (by conv => lhs; whnf)) ?_; refine Wo.nil ?_; refine Wc.seq ?_; refine Wc.seq ?_; refine Wc.reg ?_; refine Wo.op (Step.move (by conv => lhs; whnf)) ?_; refine Wo.op (Step.move (by conv => lhs; whnf)) ?_; refine Wo.op (Step.add (b := 1) rfl rfl (by omega)) ?_
  -- call made_Tape_Next
  refine Wo.call (Wf.mono (made_Tape_Next_ok h hPT ⟨by omega, by omega⟩) ?_)
  rintro _ s1 ⟨n0, rfl, hn0, hn1, e1, nx1, h1⟩
  refine Wo.op (Step.move (by conv => lhs; whnf)) ?_; refine Wo.nil ?_; refine Wc.mid (fun ρ' s' => ∃ (v : Value) (w : List UInt8) (A : Nat), (ρ' 7 = v) ∧ (Wrt T s s') ∧ (MTape P s' T) ∧ (Lst s' A 1 v (enU w)) ∧ (w.length ≤ most.toNat) ∧ (Made w k)) (Wc.block (Wc.loop (fun m ρ' s' => ∃ (n : Int) (v : Value) (w : List UInt8) (A : Nat), (ρ' 0 = ptrV T 0) ∧ (ρ' 1 = .int .i64 k) ∧ (ρ' 8 = .int .i64 n) ∧ (ρ' 7 = v) ∧ (m = n.toNat) ∧ (Wrt T s s') ∧ (MTape P s' T) ∧ (Lst s' A 1 v (enU w)) ∧ (w ≠ [] → s.nextId ≤ A) ∧ (0 ≤ n ∧ w.length + n ≤ most) ∧ (Made w k)) ?_ ?_)) ?_
  · exact ⟨_, _, _, [], 0, rfl, rfl, rfl, rfl, rfl, e1, h1, Lst.nil, by simp, by simp; omega, by intro c hc; simp at hc⟩
  · intro m ρ0 s0 hI
    obtain ⟨n, v, w, A, e0, e1, e8, e7, hm, he, ht, hL, hA, hn, hw⟩ := hI
    refine Wc.fix (k := 0) e0 ?_; refine Wc.fix (k := 1) e1 ?_; refine Wc.fix (k := 8) e8 ?_; refine Wc.fix (k := 7) e7 ?_
    have hTs := h.lt
    refine Wc.seq ?_; refine Wc.seq ?_; refine Wc.reg ?_; refine Wo.op (Step.move (by conv => lhs; whnf)) ?_; refine Wo.op (Step.gtr (b := 0) rfl rfl) ?_; refine Wo.nil ?_; refine Wc.ite rfl (fun hc14 => ?_) (fun hc14 => ?_)
    · refine Wc.skip ?_; refine Wc.seq ?_; refine Wc.block ?_; refine Wc.reg ?_; refine Wo.op (Step.move (by conv => lhs; whnf)) ?_; refine Wo.op (Step.move (by conv => lhs; whnf)) ?_; refine Wo.op (Step.move (by conv => lhs; whnf)) ?_
      -- call made_Tape_Next
      refine Wo.call (Wf.mono (made_Tape_Next_ok ht hPT ⟨by omega, by omega⟩) ?_)
      rintro _ s2 ⟨r, rfl, hr0, hr1, e2, nx2, h2⟩
      have hL2 : Lst s2 A 1 v (enU w) := hL.chg e2 (fun hc e => by have := hA (by simpa using hc); omega)
      have hu : (UInt8.ofNat (97 + r).toNat).toNat = (97 + r).toNat := by simp; omega
      have hE : enU (w ++ [UInt8.ofNat (97 + r).toNat]) = enU w ++ [.int .u8 (97 + r)] := by
        simp only [enU, List.map_append, List.map_cons, List.map_nil, hu]
        rw [show (((97 + r).toNat : Nat) : Int) = 97 + r by omega]
      refine Wo.op (Step.add (a := 97) rfl rfl (by omega)) ?_; refine Wo.op (Step.conv8 rfl (by omega)) ?_; refine Wo.app1 (A := A) (cells := enU w) rfl hL2 rfl rfl (by simp) (by simp; omega) ?_; intro p3 v3 s3 l3 c3 nx3
      have e3 : Wrt T s s3 := (he.trans e2).step c3 (fun B hB hh => by have := hA (by simpa using hh.2); omega)
      have t3 : MTape P s3 T := h2.chg c3 (fun hh => by have := hA (by simpa using hh.2); omega) (fun B hB hh => by have := hA (by simpa using hh.2); have := hPN B hB; omega)
      refine Wo.op (Step.move (by conv => lhs; whnf)) ?_; refine Wo.nil ?_; refine Wc.reg ?_; refine Wo.op (Step.move (by conv => lhs; whnf)) ?_; refine Wo.op (Step.sub (b := 1) rfl rfl (by omega)) ?_; refine Wo.op (Step.move (by conv => lhs; whnf)) ?_; refine Wo.nil ?_; refine ⟨_, ?_, _, _, w ++ [UInt8.ofNat (97 + r).toNat], _, rfl, rfl, rfl, rfl, rfl, e3, t3, by rw [hE]; exact l3, fun _ => by have := he.1; have := e2.1; omega, by simp; omega, by intro c hc; rw [List.mem_append, List.mem_singleton] at hc; rcases hc with hc | rfl; exact hw c hc; rw [hu]; omega⟩
      omega
    · refine Wc.exit ?_; refine .inl ⟨rfl, ?_⟩
      exact ⟨_, _, _, rfl, he, ht, hL, by omega, hw⟩
  · intro ρx0 sx0 hP
    obtain ⟨v, w, A, e7, he, ht, hL, hn, hw⟩ := hP
    show Wc _ _ _ _ _ _ _
    refine Wc.fix (k := 7) e7 ?_
    have hB := hL.bytes (P := fun _ => True) (fun _ => trivial)
    refine Wc.seq ?_; refine Wc.reg ?_; refine Wo.op (Step.move (by conv => lhs; whnf)) ?_; refine Wo.op (Step.strOf rfl (by assumption)) ?_; refine Wo.op (Step.move (by conv => lhs; whnf)) ?_; refine Wo.nil ?_; refine Wc.ret ⟨_, Rs.tmp (by conv => lhs; whnf) (Rs.nil), ?_⟩
    exact ⟨w, rfl, hn, hw, he, ht⟩
end Go.EvK
end

section
set_option linter.unusedVariables false
set_option maxRecDepth 100000
set_option maxHeartbeats 4000000
namespace Go.EvK
open Go Go.Ev Go.EvW Go.Co
theorem made_Tape_Counts_ok {s : St} {P : Nat → Prop} {T : Nat} {k : Int} (h : MTape P s T) (hPT : ¬ P T) (hPN : ∀ A, P A → A < s.nextId) (hk : 1 ≤ k ∧ k ≤ 3) :
    Wf kprog n_made_Tape_Counts [ptrV T 0, .int .i64 k] s (fun v s' => ∃ vI vP vA idx per acc, v = .agg ⟨[vI, vP, vA]⟩ ∧ IsInts s' (fun A => s.nextId ≤ A) vI idx ∧ IsInts s' (fun A => s.nextId ≤ A) vP per ∧ IsBools s' (fun A => s.nextId ≤ A) vA acc ∧
      Good idx per ∧ idx.length = k.toNat ∧ (∀ n ∈ idx, 0 ≤ n ∧ n ≤ 2) ∧ (∀ n ∈ per, 1 ≤ n ∧ n ≤ 3) ∧ prod (mods idx per) ≤ 125 ∧ (acc.length : Int) = prod (mods idx per) ∧ Wrt T s s' ∧ MTape P s' T ∧ ∃ AI AP AA, Lst s' AI 1 vI (enI idx) ∧ Lst s' AP 1 vP (enI per) ∧ Lst s' AA 1 vA (enB acc) ∧ s.nextId ≤ AI ∧ s.nextId ≤ AP ∧ s.nextId ≤ AA ∧ AI ≠ AP ∧ AI ≠ AA ∧ AP ≠ AA) := by
  have hTs := h.lt
  refine Wf.of p_made_Tape_Counts rfl ?_
  unfold c_made_Tape_Counts
  refine Wc.seq ?_; refine Wc.reg ?_; refine Wo.alloc ?_; intro s1 eA1 o4 n1; refine Wo.nil ?_; refine Wc.seq ?_; refine Wc.reg ?_; refine Wo.alloc ?_; intro s2 eA2 o5 n2
  have o4 := o4.pur eA2
  have h2 := (h.pur eA1).pur eA2
  refine Wo.nil ?_; refine Wc.seq ?_; refine Wc.reg ?_; refine Wo.op (Step.move (by conv => lhs; whnf)) ?_; refine Wo.nil ?_; refine Wc.seq ?_; refine Wc.seq ?_; refine Wc.reg ?_; refine Wo.op (Step.move (by conv => lhs; whnf)) ?_; refine Wo.nil ?_; refine Wc.mid (fun ρ' s' => ∃ (n : Int) (vI : Value) (vP : Value) (idx : List Int) (per : List Int) (AI : Nat) (AP : Nat), (ρ' 0 = ptrV T 0) ∧ (ρ' 4 = ptrV s.nextId 0) ∧ (ρ' 5 = ptrV s1.nextId 0) ∧ (ρ' 6 = .int .i64 n) ∧ (Wrt T s s') ∧ (MTape P s' T) ∧ (Own s' s.nextId 0 [.slice none 0 0, .slice none 0 0, .slice none 0 0]) ∧ (Own s' s1.nextId 0 [vI, vP, .slice none 0 0]) ∧ (Lst s' AI 1 vI (enI idx)) ∧ (Lst s' AP 1 vP (enI per)) ∧ (AI ≠ AP ∧ AI < s'.nextId ∧ AP < s'.nextId) ∧ (idx ≠ [] → s1.nextId < AI ∧ s1.nextId < AP) ∧ ((idx.length : Int) = k ∧ (per.length : Int) = k) ∧ (∀ n ∈ idx, 0 ≤ n ∧ n ≤ 2) ∧ (∀ n ∈ per, 1 ≤ n ∧ n ≤ 3) ∧ (n = prod (mods idx per)) ∧ (n ≤ 125)) (Wc.block (Wc.loop (fun m ρ' s' => ∃ (a : Nat) (n : Int) (vI : Value) (vP : Value) (idx : List Int) (per : List Int) (AI : Nat) (AP : Nat), (ρ' 0 = ptrV T 0) ∧ (ρ' 1 = .int .i64 k) ∧ (ρ' 4 = ptrV s.nextId 0) ∧ (ρ' 5 = ptrV s1.nextId 0) ∧ (ρ' 6 = .int .i64 n) ∧ (ρ' 7 = .int .i64 ((a : Nat) : Int)) ∧ (m = (k - a).toNat) ∧ (Wrt T s s') ∧ (MTape P s' T) ∧ (Own s' s.nextId 0 [.slice none 0 0, .slice none 0 0, .slice none 0 0]) ∧ (Own s' s1.nextId 0 [vI, vP, .slice none 0 0]) ∧ (Lst s' AI 1 vI (enI idx)) ∧ (Lst s' AP 1 vP (enI per)) ∧ (AI ≠ AP ∧ AI < s'.nextId ∧ AP < s'.nextId) ∧ (idx ≠ [] → s1.nextId < AI ∧ s1.nextId < AP) ∧ (idx.length = a ∧ per.length = a ∧ (a : Int) ≤ k) ∧ (∀ n ∈ idx, 0 ≤ n ∧ n ≤ 2) ∧ (∀ n ∈ per, 1 ≤ n ∧ n ≤ 3) ∧ (n = prod (mods idx per)) ∧ (n ≤ ((5 ^ a : Nat) : Int))) ?_ ?_)) ?_
  · exact ⟨_, 0, _, .slice none 0 0, .slice none 0 0, [], [], 0, 1, rfl, rfl, rfl, rfl, rfl, rfl, rfl, Chg.trans (Chg.pur eA1) (Chg.pur eA2), h2, o4, o5, Lst.nil, Lst.nil, by omega, by simp, by simp; omega, by simp, by simp, rfl, by simp⟩
  · intro m ρ0 s0 hI
    obtain ⟨a, n, vI, vP, idx, per, AI, AP, e0, e1, e4, e5, e6, e7, hm, he, ht, hO4, hO5, hLI, hLP, hAA, hAN, hla, hri, hrp, hn, hnb⟩ := hI
    refine Wc.fix (k := 0) e0 ?_; refine Wc.fix (k := 1) e1 ?_; refine Wc.fix (k := 4) e4 ?_; refine Wc.fix (k := 5) e5 ?_; refine Wc.fix (k := 6) e6 ?_; refine Wc.fix (k := 7) e7 ?_
    have hTl := ht.lt
    have hC4 := hO4.1
    have hC5 := hO5.1
    refine Wc.seq ?_; refine Wc.seq ?_; refine Wc.reg ?_; refine Wo.op (Step.move (by conv => lhs; whnf)) ?_; refine Wo.op (Step.move (by conv => lhs; whnf)) ?_; refine Wo.op (Step.lss rfl rfl) ?_; refine Wo.nil ?_; refine Wc.ite rfl (fun hc11 => ?_) (fun hc11 => ?_)
    · refine Wc.skip ?_; refine Wc.seq ?_; refine Wc.block ?_; refine Wc.seq ?_; refine Wc.draw ?_; refine Wd.pure rfl (Step.faddr rfl) ?_; refine Wd.read rfl (Step.load rfl (by first | assumption | exact Own.row (by assumption)) (by rfl)) ?_; refine Wd.pure rfl (Step.move (by conv => lhs; whnf)) ?_; refine Wd.pure rfl (Step.faddr rfl) ?_; refine Wd.read rfl (Step.load rfl (by first | assumption | exact Own.row (by assumption)) (by rfl)) ?_; refine Wd.pure rfl (Step.move (by conv => lhs; whnf)) ?_
      -- call made_Tape_Next
      refine Wd.call (Wf.mono (made_Tape_Next_ok (n := 3) ht hPT ⟨by omega, by omega⟩) ?_)
      rintro _ s3 ⟨r1, rfl, hr10, hr11, c3, nx3, t3⟩
      have hTC : s.nextId ≠ T := by omega
      have hTC5 : s1.nextId ≠ T := by omega
      have o43 := hO4.chg c3 hTC
      have o53 := hO5.chg c3 hTC5
      have hLI3 := hLI.chg c3 (fun hc e => by have := hAN (by simpa using hc); omega)
      have hLP3 := hLP.chg c3 (fun hc e => by have := hAN (fun h => by rw [h] at hla; simp at hla; have := hla.2.1; rw [← hla.1, List.length_eq_zero_iff] at this; simp [this] at hc); omega)
      refine ⟨⟨fun _ => reread rfl (Own.row o53) (by rfl) hLP.veq, fun _ => reread rfl (Own.row o53) (by rfl) hLI.veq, trivial⟩, ?_⟩; refine Wd.app1 (A := AI) (cells := enI idx) (w := .int .i64 r1) rfl hLI3 rfl rfl (by simp) (by omega) (by simp; omega) (fun s' hp => ⟨fun _ => reread rfl (Own.row (o53.pur hp)) (by rfl) hLP.veq, fun _ => reread rfl (Own.row (o53.pur hp)) (by rfl) hLI.veq, trivial⟩) ?_; intro p19 vI2 s4 hLI4 c4 nx4
      have hnA : ∀ B, B < s1.nextId + 1 → ¬ (B = AI ∧ enI idx ≠ []) := fun B hB hh => by have := hAN (by simpa using hh.2); omega
      have o44 := o43.chg c4 (hnA _ (by omega))
      have o54 := o53.chg c4 (hnA _ (by omega))
      have t4 : MTape P s4 T := t3.chg c4 (hnA _ (by omega)) (fun A hA => hnA A (by have := hPN A hA; omega))
      have hLP4 := hLP3.chg c4 (fun hc e => hAA.1 e.1.symm)
      refine ⟨⟨fun _ => reread rfl (Own.row o54) (by rfl) hLP.veq, fun h => absurd h (by omega), trivial⟩, ?_⟩; refine Wd.pure rfl (Step.faddr rfl) ?_
      -- call made_Tape_Next
      refine Wd.call (Wf.mono (made_Tape_Next_ok (n := 3) t4 hPT ⟨by omega, by omega⟩) ?_)
      rintro _ s5 ⟨r2, rfl, hr20, hr21, c5, nx5, t5⟩
      have o45 := o44.chg c5 hTC
      have o55 := o54.chg c5 hTC5
      have hLI5 := hLI4.chg c5 (fun hc e => by omega)
      have hLP5 := hLP4.chg c5 (fun hc e => by have := hAN (fun h => by rw [h] at hla; simp at hla; have := hla.2.1; rw [← hla.1, List.length_eq_zero_iff] at this; simp [this] at hc); omega)
      refine ⟨⟨by omega, fun _ => reread rfl (Own.row o55) (by rfl) hLP.veq, fun h => absurd h (by omega), trivial⟩, ?_⟩; refine Wd.pure rfl (Step.add (a := 1) rfl rfl (by omega)) ?_; refine Wd.app1 (A := AP) (cells := enI per) (w := .int .i64 (1 + r2)) rfl hLP5 rfl rfl (by simp) (by omega) (by simp; omega) (fun s' hp => ⟨by omega, fun _ => reread rfl (Own.row (o55.pur hp)) (by rfl) hLP.veq, fun h => absurd h (by omega), trivial⟩) ?_; intro p26 vP2 s6 hLP6 c6 nx6
      have hnP : ∀ B, B < s1.nextId + 1 → ¬ (B = AP ∧ enI per ≠ []) := fun B hB hh => by have := hAN (fun h => by rw [h] at hla; simp at hla; have := hla.2.1; rw [← hla.1, List.length_eq_zero_iff] at this; simp [this] at hh); omega
      have o46 := o45.chg c6 (hnP _ (by omega))
      have o56 := o55.chg c6 (hnP _ (by omega))
      have t6 : MTape P s6 T := t5.chg c6 (hnP _ (by omega)) (fun A hA => hnP A (by have := hPN A hA; omega))
      have hLI6 := hLI5.chg c6 (fun hc e => by omega)
      have hw6 : Wrt T s s6 := (((he.trans c3).step c4 (fun B hB hh => absurd hh (hnA B (by omega)))).trans c5).step c6 (fun B hB hh => absurd hh (hnP B (by omega)))
      refine ⟨⟨by omega, fun h => absurd h (by omega), fun h => absurd h (by omega), trivial⟩, ?_⟩; refine Wd.store rfl (by first | exact Sl.cell (by assumption) | exact Lst.cell (by assumption) | (conv => lhs; whnf)) (by rfl) (by first | rfl | exact Sl.one (by assumption) | exact Lst.one (by assumption) | exact ones3 (Sl.one (by assumption)) (Sl.one (by assumption)) (Sl.one (by assumption))) (by assumption) (by rfl) ?_; intro sS0 wS0 oS0 nS0; refine ⟨by simp, ?_⟩
      have hLI6 := hLI6.chg wS0 (fun hc e => by omega)
      have hLP6 := hLP6.chg wS0 (fun hc e => by omega)
      have hw6 : Wrt T s sS0 := hw6.step wS0 (fun B hB hh => by omega)
      have t6 : MTape P sS0 T := t6.chg wS0 (by omega) (fun A hA e => by have := hPN A hA; omega)
      have o46 := o46.chg wS0 (by omega)
      refine Wd.pure rfl (Step.faddr rfl) ?_; refine Wd.store rfl (by first | exact Sl.cell (by assumption) | exact Lst.cell (by assumption) | (conv => lhs; whnf)) (by rfl) (by first | rfl | exact Sl.one (by assumption) | exact Lst.one (by assumption) | exact ones3 (Sl.one (by assumption)) (Sl.one (by assumption)) (Sl.one (by assumption))) (by assumption) (by rfl) ?_; intro sS1 wS1 oS1 nS1; refine ⟨by simp, ?_⟩
      have hLI6 := hLI6.chg wS1 (fun hc e => by omega)
      have hLP6 := hLP6.chg wS1 (fun hc e => by omega)
      have hw6 : Wrt T s sS1 := hw6.step wS1 (fun B hB hh => by omega)
      have ht6 : MTape P sS1 T := t6.chg wS1 (by omega) (fun A hA e => by have := hPN A hA; omega)
      have o46 := o46.chg wS1 (by omega)
      have hI6 : IsInts sS1 (fun _ => True) vI2 (idx ++ [r1]) := Lst.ints (A := s3.nextId + 1) (by simpa [enI] using hLI6) (fun _ => trivial)
      have hP6 : IsInts sS1 (fun _ => True) vP2 (per ++ [1 + r2]) := Lst.ints (A := s5.nextId + 1) (by simpa [enI] using hLP6) (fun _ => trivial)
      have hLI6 : Lst sS1 (s3.nextId + 1) 1 vI2 (enI (idx ++ [r1])) := by simpa [enI] using hLI6
      have hLP6 : Lst sS1 (s5.nextId + 1) 1 vP2 (enI (per ++ [1 + r2])) := by simpa [enI] using hLP6
      have hgi : geti (idx ++ [r1]) ((a : Nat) : Int) = r1 := by simp [geti, ← hla.1]
      have hgp : geti (per ++ [1 + r2]) ((a : Nat) : Int) = 1 + r2 := by simp [geti, ← hla.2.1]
      have hli : (idx ++ [r1]).length = a + 1 := by simp; omega
      have hlp : (per ++ [1 + r2]).length = a + 1 := by simp; omega
      have hg0 : Good idx per := ⟨by omega, fun n hn => (hri n hn).1, fun n hn => (hrp n hn).1⟩
      have hn0 := prod_pos (mods_pos hg0)
      rw [← hn] at hn0
      have h5 : 5 ^ a ≤ 5 ^ 2 := Nat.pow_le_pow_right (by omega) (by omega)
      have hmn := mul_bnd (a := n) (b := r1 + (1 + r2)) (A := ((5 ^ a : Nat) : Int)) (B := 5) ⟨by omega, hnb⟩ (by omega)
      have hnn : n * (r1 + (1 + r2)) = prod (mods (idx ++ [r1]) (per ++ [1 + r2])) := by
        unfold mods
        rw [List.zipWith_append (by omega), prod_append, hn]
        simp [mods, prod]
      have hmn1 : n * (r1 + (1 + r2)) ≤ ((5 ^ (a + 1) : Nat) : Int) := by rw [Nat.pow_succ, Int.natCast_mul]; exact hmn.2
      refine Wd.nil ?_; refine Wc.draw ?_; refine Wd.pure rfl (Step.move (by conv => lhs; whnf)) ?_; refine Wd.pure rfl (Step.faddr rfl) ?_; refine Wd.read rfl (Step.load rfl (by first | assumption | exact Own.row (by assumption)) (by rfl)) ?_; refine Wd.pure rfl (Step.move (by conv => lhs; whnf)) ?_
      first | refine Wd.idxI rfl (by assumption) rfl (by omega) (by omega) ?_ | refine Wd.idxB rfl (by assumption) rfl (by omega) (by omega) ?_ | refine Wd.idxU rfl (by assumption) rfl (by omega) (by omega) ?_
      intro p33; refine Wd.pure rfl (Step.faddr rfl) ?_; refine Wd.read rfl (Step.load rfl (by first | assumption | exact Own.row (by assumption)) (by rfl)) ?_; refine Wd.pure rfl (Step.move (by conv => lhs; whnf)) ?_
      first | refine Wd.idxI rfl (by assumption) rfl (by omega) (by omega) ?_ | refine Wd.idxB rfl (by assumption) rfl (by omega) (by omega) ?_ | refine Wd.idxU rfl (by assumption) rfl (by omega) (by omega) ?_
      intro p38
      rw [hgi, hgp]
      refine Wd.pure rfl (Step.add rfl rfl (by omega)) ?_; refine Wd.pure rfl (Step.mul rfl rfl (by omega)) ?_; refine Wd.pure rfl (Step.move (by conv => lhs; whnf)) ?_; refine Wd.nil ?_; refine Wc.reg ?_; refine Wo.op (Step.move (by conv => lhs; whnf)) ?_; refine Wo.op (Step.add (b := 1) rfl rfl (by omega)) ?_; refine Wo.op (Step.move (by conv => lhs; whnf)) ?_; refine Wo.nil ?_; refine ⟨_, ?_, a + 1, _, vI2, vP2, idx ++ [r1], per ++ [1 + r2], _, _, rfl, rfl, rfl, rfl, rfl, rfl, rfl, ?_, ?_, ?_, ?_, hLI6, hLP6, ?_, ?_, ?_, ?_, ?_, hnn, ?_⟩
      · omega
      · exact hw6
      · exact ht6
      · exact o46
      · exact oS1
      · exact ⟨by omega, by omega, by omega⟩
      · intro _; omega
      · simp; omega
      · intro n hn; rw [List.mem_append, List.mem_singleton] at hn; rcases hn with hn | rfl; exact hri n hn; omega
      · intro n hn; rw [List.mem_append, List.mem_singleton] at hn; rcases hn with hn | rfl; exact hrp n hn; omega
      · exact hmn1
    · refine Wc.exit ?_; refine .inl ⟨rfl, ?_⟩
      have hak : (a : Int) = k := by omega
      have h5 : 5 ^ a ≤ 5 ^ 3 := Nat.pow_le_pow_right (by omega) (by omega)
      exact ⟨_, vI, vP, idx, per, AI, AP, rfl, rfl, rfl, rfl, he, ht, hO4, hO5, hLI, hLP, hAA, hAN, by omega, hri, hrp, hn, by omega⟩
  · intro ρx0 sx0 hP
    obtain ⟨n, vI, vP, idx, per, AI, AP, e0, e4, e5, e6, he, ht, hO4, hO5, hLI, hLP, hAA, hAN, hla, hri, hrp, hn, hnb⟩ := hP
    show Wc _ _ _ _ _ _ _
    refine Wc.fix (k := 0) e0 ?_; refine Wc.fix (k := 4) e4 ?_; refine Wc.fix (k := 5) e5 ?_; refine Wc.fix (k := 6) e6 ?_
    have hg : Good idx per := ⟨by omega, fun n hn => (hri n hn).1, fun n hn => (hrp n hn).1⟩
    have hn1 := prod_pos (mods_pos hg)
    rw [← hn] at hn1
    have hidx : idx ≠ [] := fun h => by rw [h] at hla; simp at hla; omega
    have hper : per ≠ [] := fun h => by rw [h] at hla; simp at hla; omega
    have hAN := hAN hidx
    refine Wc.seq ?_; refine Wc.seq ?_; refine Wc.reg ?_; refine Wo.op (Step.move (by conv => lhs; whnf)) ?_; refine Wo.nil ?_; refine Wc.mid (fun ρ' s' => ∃ (vA : Value) (acc : List Bool) (AA : Nat), (ρ' 4 = ptrV s.nextId 0) ∧ (ρ' 5 = ptrV s1.nextId 0) ∧ (Wrt T s s') ∧ (MTape P s' T) ∧ (Own s' s.nextId 0 [.slice none 0 0, .slice none 0 0, .slice none 0 0]) ∧ (Own s' s1.nextId 0 [vI, vP, vA]) ∧ (Lst s' AI 1 vI (enI idx)) ∧ (Lst s' AP 1 vP (enI per)) ∧ (Lst s' AA 1 vA (enB acc)) ∧ (acc ≠ [] → sx0.nextId ≤ AA) ∧ ((acc.length : Int) = n)) (Wc.block (Wc.loop (fun m ρ' s' => ∃ (q : Nat) (vA : Value) (acc : List Bool) (AA : Nat), (ρ' 0 = ptrV T 0) ∧ (ρ' 4 = ptrV s.nextId 0) ∧ (ρ' 5 = ptrV s1.nextId 0) ∧ (ρ' 6 = .int .i64 n) ∧ (ρ' 8 = .int .i64 ((q : Nat) : Int)) ∧ (m = (n - q).toNat) ∧ (Wrt T s s') ∧ (MTape P s' T) ∧ (Own s' s.nextId 0 [.slice none 0 0, .slice none 0 0, .slice none 0 0]) ∧ (Own s' s1.nextId 0 [vI, vP, vA]) ∧ (Lst s' AI 1 vI (enI idx)) ∧ (Lst s' AP 1 vP (enI per)) ∧ (Lst s' AA 1 vA (enB acc)) ∧ (acc ≠ [] → sx0.nextId ≤ AA) ∧ (sx0.nextId ≤ s'.nextId) ∧ (acc.length = q ∧ (q : Int) ≤ n)) ?_ ?_)) ?_
    · exact ⟨_, 0, .slice none 0 0, [], 0, rfl, rfl, rfl, rfl, rfl, rfl, he, ht, hO4, hO5, hLI, hLP, Lst.nil, by simp, by omega, by simp; omega⟩
    · intro m ρ2 s2 hI
      obtain ⟨q, vA, acc, AA, e0, e4, e5, e6, e8, hm, ge, gt, gO4, gO5, gLI, gLP, gLA, gAN, gnx, gq⟩ := hI
      refine Wc.fix (k := 0) e0 ?_; refine Wc.fix (k := 4) e4 ?_; refine Wc.fix (k := 5) e5 ?_; refine Wc.fix (k := 6) e6 ?_; refine Wc.fix (k := 8) e8 ?_
      have gTl := ht.lt
      have gC4 := hO4.1
      have gC5 := hO5.1
      refine Wc.seq ?_; refine Wc.seq ?_; refine Wc.reg ?_; refine Wo.op (Step.move (by conv => lhs; whnf)) ?_; refine Wo.op (Step.move (by conv => lhs; whnf)) ?_; refine Wo.op (Step.lss rfl rfl) ?_; refine Wo.nil ?_; refine Wc.ite rfl (fun hc44 => ?_) (fun hc44 => ?_)
      · refine Wc.skip ?_; refine Wc.seq ?_; refine Wc.block ?_; refine Wc.draw ?_; refine Wd.pure rfl (Step.faddr rfl) ?_; refine Wd.read rfl (Step.load rfl (by first | assumption | exact Own.row (by assumption)) (by rfl)) ?_; refine Wd.pure rfl (Step.move (by conv => lhs; whnf)) ?_
        -- call made_Tape_Next
        refine Wd.call (Wf.mono (made_Tape_Next_ok (n := 2) gt hPT ⟨by omega, by omega⟩) ?_)
        rintro _ s3 ⟨r, rfl, hr0, hr1, c3, nx3, t3⟩
        have gO43 := gO4.chg c3 (by omega)
        have gO53 := gO5.chg c3 (by omega)
        have gLI3 := gLI.chg c3 (fun hc e => by omega)
        have gLP3 := gLP.chg c3 (fun hc e => by omega)
        have gLA3 := gLA.chg c3 (fun hc e => by have := gAN (by simpa using hc); omega)
        refine ⟨⟨fun _ => reread rfl (Own.row gO53) (by rfl) gLA.veq, trivial⟩, ?_⟩; refine Wd.pure rfl (Step.eql (b := 1) rfl rfl) ?_; refine Wd.app1 (A := AA) (cells := enB acc) (w := .bool (decide (r = 1))) rfl gLA3 rfl rfl (by simp) (by omega) (by simp; omega) (fun s' hp => ⟨fun _ => reread rfl (Own.row (gO53.pur hp)) (by rfl) gLA.veq, trivial⟩) ?_; intro p53 vA2 s4 gLA4 c4 nx4
        have hnA : ∀ B, B < sx0.nextId → ¬ (B = AA ∧ enB acc ≠ []) := fun B hB hh => by have := gAN (by simpa using hh.2); omega
        have gO44 := gO43.chg c4 (hnA _ (by omega))
        have gO54 := gO53.chg c4 (hnA _ (by omega))
        have t4 : MTape P s4 T := t3.chg c4 (hnA _ (by omega)) (fun A hA => hnA A (by have := hPN A hA; omega))
        have gLI4 := gLI3.chg c4 (fun hc => hnA _ (by omega))
        have gLP4 := gLP3.chg c4 (fun hc => hnA _ (by omega))
        refine ⟨⟨fun h => absurd h (by omega), trivial⟩, ?_⟩; refine Wd.pure rfl (Step.faddr rfl) ?_; refine Wd.store rfl (by first | exact Sl.cell (by assumption) | exact Lst.cell (by assumption) | (conv => lhs; whnf)) (by rfl) (by first | rfl | exact Sl.one (by assumption) | exact Lst.one (by assumption) | exact ones3 (Sl.one (by assumption)) (Sl.one (by assumption)) (Sl.one (by assumption))) (by assumption) (by rfl) ?_; intro sS2 wS2 oS2 nS2; refine ⟨by simp, ?_⟩
        have gLA5 := gLA4.chg wS2 (fun hc e => by omega)
        have gLI5 := gLI4.chg wS2 (fun hc e => by omega)
        have gLP5 := gLP4.chg wS2 (fun hc e => by omega)
        have gO45 := gO44.chg wS2 (by omega)
        have gt5 : MTape P sS2 T := t4.chg wS2 (by omega) (fun A hA e => by have := hPN A hA; omega)
        have ge5 : Wrt T s sS2 := ((ge.trans c3).step c4 (fun B hB hh => absurd hh (hnA B (by omega)))).step wS2 (fun B hB hh => by omega)
        refine Wd.nil ?_; refine Wc.reg ?_; refine Wo.op (Step.move (by conv => lhs; whnf)) ?_; refine Wo.op (Step.add (b := 1) rfl rfl (by omega)) ?_; refine Wo.op (Step.move (by conv => lhs; whnf)) ?_; refine Wo.nil ?_; refine ⟨_, ?_, q + 1, vA2, acc ++ [decide (r = 1)], s3.nextId + 1, rfl, rfl, rfl, rfl, rfl, rfl, ge5, gt5, gO45, oS2, gLI5, gLP5, by simpa [enB] using gLA5, fun _ => by omega, by omega, by simp; omega⟩
        omega
      · refine Wc.exit ?_; refine .inl ⟨rfl, ?_⟩
        exact ⟨vA, acc, AA, rfl, rfl, ge, gt, gO4, gO5, gLI, gLP, gLA, gAN, by omega⟩
    · intro ρx2 sx2 hP
      obtain ⟨vA, acc, AA, e4, e5, ge, gt, gO4, gO5, gLI, gLP, gLA, gAN, gq⟩ := hP
      show Wc _ _ _ _ _ _ _
      refine Wc.fix (k := 4) e4 ?_; refine Wc.fix (k := 5) e5 ?_
      have hacn : acc ≠ [] := fun h => by rw [h] at gq; simp at gq; omega
      have gAA := gAN hacn
      have gTl := ht.lt
      have gC4 := hO4.1
      have gC5 := hO5.1
      have fI : IsInts sx2 (fun A => s.nextId ≤ A ∧ A ≠ s.nextId) vI idx := gLI.ints (fun _ => by omega)
      have fP : IsInts sx2 (fun A => s.nextId ≤ A ∧ A ≠ s.nextId) vP per := gLP.ints (fun _ => by omega)
      have fA : IsBools sx2 (fun A => s.nextId ≤ A ∧ A ≠ s.nextId) vA acc := gLA.bools (fun h => by have := gAN h; omega)
      refine Wc.seq ?_; refine Wc.reg ?_; refine Wo.op (Step.loadN rfl (by first | assumption | exact Own.row (by assumption)) (by rfl)) ?_; refine Wo.store rfl (by first | exact Sl.cell (by assumption) | exact Lst.cell (by assumption) | (conv => lhs; whnf)) (by rfl) (by first | rfl | exact Sl.one (by assumption) | exact Lst.one (by assumption) | exact ones3 (Sl.one (by assumption)) (Sl.one (by assumption)) (Sl.one (by assumption))) (by assumption) (by rfl) ?_; intro sS3 wS3 oS3 nS3
      have fI2 := fI.chg wS3 (fun A hA e => hA.2 e)
      have fP2 := fP.chg wS3 (fun A hA e => hA.2 e)
      have fA2 := fA.chg wS3 (fun A hA e => hA.2 e)
      have ge5 : Wrt T s sS3 := ge.step wS3 (fun B hB hh => by omega)
      have gt5 : MTape P sS3 T := gt.chg wS3 (by omega) (fun A hA e => by have := hPN A hA; omega)
      refine Wo.nil ?_; refine Wc.ret ?_
      exact ⟨_, Rs.cells rfl (Row.cells (Own.row oS3)) (by rfl) Rs.nil, vI, vP, vA, idx, per, acc, rfl, fI2.mono (fun A _ h => h.1), fP2.mono (fun A _ h => h.1), fA2.mono (fun A _ h => h.1), hg, by omega, hri, hrp, by omega, by omega, ge5, gt5, AI, AP, AA, gLI.chg wS3 (fun _ e => by omega), gLP.chg wS3 (fun _ e => by omega), gLA.chg wS3 (fun _ e => by omega), by omega, by omega, by omega, by omega, by omega, by omega⟩
end Go.EvK
end

section
set_option linter.unusedVariables false
set_option maxRecDepth 100000
set_option maxHeartbeats 4000000
namespace Go.EvK
open Go Go.Ev Go.EvW Go.Co
theorem counting_size_ok {s : St} {P : Nat → Prop} {vI vP : Value} {idx per : List Int} (hI : IsInts s P vI idx) (hP : IsInts s P vP per) (hg : Good idx per) (h6 : idx.length ≤ 6) :
    Wf kprog n_counting_size [vI, vP] s (fun v s' => v = .int .i64 (sizeL idx per 1) ∧ s = s') := by
  obtain ⟨hl, hgi, hgp⟩ := hg
  refine Wf.of p_counting_size rfl ?_
  unfold c_counting_size
  refine Wc.seq ?_; refine Wc.reg ?_; refine Wo.op (Step.move (by conv => lhs; whnf)) ?_; refine Wo.nil ?_; refine Wc.seq ?_; refine Wc.reg ?_; refine Wo.op (Step.move (by conv => lhs; whnf)) ?_; refine Wo.nil ?_; refine Wc.seq ?_; refine Wc.seq ?_; refine Wc.reg ?_; refine Wo.op (Step.move (by conv => lhs; whnf)) ?_; refine Wo.op (Step.lenSl rfl (by assumption)) ?_; refine Wo.op (Step.move (by conv => lhs; whnf)) ?_; refine Wo.nil ?_; refine Wc.mid (fun ρ' s' => ∃ (n : Int), (ρ' 5 = .int .i64 n) ∧ (s' = s) ∧ (n = sizeL idx per 1)) (Wc.block (Wc.loop (fun m ρ' s' => ∃ (i : Nat) (n : Int), (ρ' 0 = vI) ∧ (ρ' 1 = vP) ∧ (ρ' 8 = .int .i64 ((idx.length : Nat) : Int)) ∧ (ρ' 9 = .int .i64 ((i : Nat) : Int)) ∧ (ρ' 5 = .int .i64 n) ∧ (m = idx.length - i) ∧ (s' = s) ∧ (i ≤ idx.length) ∧ (0 ≤ n ∧ n ≤ 2001) ∧ (sizeL (idx.drop i) (per.drop i) n = sizeL idx per 1)) ?_ ?_)) ?_
  · exact ⟨_, 0, 1, rfl, rfl, rfl, rfl, rfl, rfl, rfl, by omega, by omega, rfl⟩
  · intro m ρ0 s0 hI
    obtain ⟨i, n, e0, e1, e8, e9, e5, hm, hs, hi, hn, hz⟩ := hI
    refine Wc.fix (k := 0) e0 ?_; refine Wc.fix (k := 1) e1 ?_; refine Wc.fix (k := 8) e8 ?_; refine Wc.fix (k := 9) e9 ?_; refine Wc.fix (k := 5) e5 ?_
    subst hs
    refine Wc.seq ?_; refine Wc.reg ?_
    have hb1 : i < idx.length → 0 ≤ geti idx i := fun h => hgi _ (geti_mem (by omega) (by omega))
    have hb2 : i < idx.length → 1 ≤ geti per i := fun h => hgp _ (geti_mem (by omega) (by omega))
    refine Wo.op (Step.lss rfl rfl) ?_; refine Wo.nil ?_; refine Wc.seq ?_; refine Wc.ite rfl (fun hc10 => ?_) (fun hc10 => ?_)
    · refine Wc.skip ?_; refine Wc.seq ?_; refine Wc.block ?_; refine Wc.seq ?_; refine Wc.reg ?_; refine Wo.op (Step.move (by conv => lhs; whnf)) ?_; refine Wo.op (Step.move (by conv => lhs; whnf)) ?_; refine Wo.nil ?_; refine Wc.seq ?_; refine Wc.seq ?_; refine Wc.reg ?_; refine Wo.op (Step.move (by conv => lhs; whnf)) ?_; refine Wo.op (Step.move (by conv => lhs; whnf)) ?_
      first | refine Wo.idxI rfl (by assumption) rfl (by omega) (by omega) ?_ | refine Wo.idxB rfl (by assumption) rfl (by omega) (by omega) ?_ | refine Wo.idxU rfl (by assumption) rfl (by omega) (by omega) ?_
      intro p14; refine Wo.op (Step.gtr (b := 2000) rfl rfl) ?_; refine Wo.op (Step.move (by conv => lhs; whnf)) ?_; refine Wo.cases (j := 17) rfl (fun hc17 => ?_) (fun hc17 => ?_)
      · refine Wo.off rfl rfl ?_; refine Wo.off rfl rfl ?_; refine Wo.off rfl rfl ?_; refine Wo.off rfl rfl ?_; refine Wo.off rfl rfl ?_; refine Wo.op (Step.pickT rfl (by conv => lhs; whnf)) ?_; refine Wo.nil ?_; refine Wc.yes rfl ?_; refine Wc.seq ?_; refine Wc.reg ?_; refine Wo.op (Step.move (by conv => lhs; whnf)) ?_; refine Wo.nil ?_; refine Wc.ret ⟨_, Rs.tmp (by conv => lhs; whnf) (Rs.nil), ?_⟩
        exact ⟨by rw [← hz, drop_geti (xs := idx) (i := i) (by omega), drop_geti (xs := per) (i := i) (by omega)]; simp only [sizeL]; rw [if_pos (by omega)]; rfl, rfl⟩
      · refine Wo.on rfl ?_; refine Wo.op (Step.move (by conv => lhs; whnf)) ?_; refine Wo.on rfl ?_; refine Wo.op (Step.move (by conv => lhs; whnf)) ?_; refine Wo.on2 rfl (by decide) ?_
        first | refine Wo.idxI rfl (by assumption) rfl (by omega) (by omega) ?_ | refine Wo.idxB rfl (by assumption) rfl (by omega) (by omega) ?_ | refine Wo.idxU rfl (by assumption) rfl (by omega) (by omega) ?_
        intro p20; refine Wo.on rfl ?_; refine Wo.op (Step.gtr (b := 2000) rfl rfl) ?_; refine Wo.op (Step.pickF rfl (by conv => lhs; whnf)) ?_; refine Wo.nil ?_; refine Wc.ite rfl (fun hc23 => ?_) (fun hc23 => ?_)
        · refine Wc.seq ?_; refine Wc.reg ?_; refine Wo.op (Step.move (by conv => lhs; whnf)) ?_; refine Wo.nil ?_; refine Wc.ret ⟨_, Rs.tmp (by conv => lhs; whnf) (Rs.nil), ?_⟩
          exact ⟨by rw [← hz, drop_geti (xs := idx) (i := i) (by omega), drop_geti (xs := per) (i := i) (by omega)]; simp only [sizeL]; rw [if_pos (by omega)]; rfl, rfl⟩
        · refine Wc.skip ?_; refine Wc.draw ?_; refine Wd.pure rfl (Step.move (by conv => lhs; whnf)) ?_; refine Wd.pure rfl (Step.move (by conv => lhs; whnf)) ?_; refine Wd.pure rfl (Step.move (by conv => lhs; whnf)) ?_
          first | refine Wd.idxI rfl (by assumption) rfl (by omega) (by omega) ?_ | refine Wd.idxB rfl (by assumption) rfl (by omega) (by omega) ?_ | refine Wd.idxU rfl (by assumption) rfl (by omega) (by omega) ?_
          intro p27; refine Wd.pure rfl (Step.move (by conv => lhs; whnf)) ?_; refine Wd.pure rfl (Step.move (by conv => lhs; whnf)) ?_
          first | refine Wd.idxI rfl (by assumption) rfl (by omega) (by omega) ?_ | refine Wd.idxB rfl (by assumption) rfl (by omega) (by omega) ?_ | refine Wd.idxU rfl (by assumption) rfl (by omega) (by omega) ?_
          intro p31; refine Wd.pure rfl (Step.add rfl rfl (by omega)) ?_
          have hm1 := mul_bnd (a := n) (b := geti idx i + geti per i) (A := 2001) (B := 4000) hn (by omega)
          refine Wd.pure rfl (Step.mul rfl rfl (by omega)) ?_; refine Wd.pure rfl (Step.min (b := 2001) rfl rfl) ?_; refine Wd.pure rfl (Step.move (by conv => lhs; whnf)) ?_; refine Wd.nil ?_; refine Wc.reg ?_; refine Wo.op (Step.add (b := 1) rfl rfl (by omega)) ?_; refine Wo.op (Step.move (by conv => lhs; whnf)) ?_; refine Wo.nil ?_; refine ⟨_, ?_, i + 1, _, rfl, rfl, rfl, rfl, rfl, rfl, rfl, by omega, by omega, by rw [← hz, drop_geti (xs := idx) (i := i) (by omega), drop_geti (xs := per) (i := i) (by omega)]; simp only [sizeL]; rw [if_neg (by omega)]⟩
          omega
    · refine Wc.exit ?_; refine .inl ⟨rfl, ?_⟩
      exact ⟨n, rfl, rfl, by rw [← hz, List.drop_eq_nil_of_le (show idx.length ≤ i by omega)]; rfl⟩
  · intro ρx0 sx0 hP
    obtain ⟨n, e5, hs, hz⟩ := hP
    show Wc _ _ _ _ _ _ _
    refine Wc.fix (k := 5) e5 ?_
    subst hs
    refine Wc.seq ?_; refine Wc.reg ?_; refine Wo.op (Step.move (by conv => lhs; whnf)) ?_; refine Wo.op (Step.move (by conv => lhs; whnf)) ?_; refine Wo.nil ?_; refine Wc.ret ⟨_, Rs.tmp (by conv => lhs; whnf) (Rs.nil), ?_⟩
    exact ⟨by rw [hz]; rfl, rfl⟩
theorem word_Valid_ok {s : St} {w : List UInt8} {k : Int} (hk : -9223372036854775808 ≤ k ∧ k < 9223372036854775808) (hw : w.length < 9223372036854775807) :
    Wf kprog n_word_Valid [.string ⟨⟨w⟩⟩, .int .i64 k] s (fun v s' => v = .bool (decide (WordOk w k)) ∧ s = s') := by
  refine Wf.of p_word_Valid rfl ?_
  unfold c_word_Valid
  refine Wc.seq ?_; refine Wc.reg ?_; refine Wo.op (Step.move (by conv => lhs; whnf)) ?_; refine Wo.nil ?_; refine Wc.seq ?_; refine Wc.seq ?_; refine Wc.reg ?_; refine Wo.op (Step.move (by conv => lhs; whnf)) ?_; refine Wo.op (Step.lss (b := 1) rfl rfl) ?_; refine Wo.op (Step.move (by conv => lhs; whnf)) ?_; refine Wo.cases (j := 8) rfl (fun hc8 => ?_) (fun hc8 => ?_)
  · refine Wo.off rfl rfl ?_; refine Wo.off rfl rfl ?_; refine Wo.op (Step.pickT rfl (by conv => lhs; whnf)) ?_; refine Wo.op (Step.move (by conv => lhs; whnf)) ?_; refine Wo.off rfl rfl ?_; refine Wo.off rfl rfl ?_; refine Wo.off rfl rfl ?_; refine Wo.op (Step.pickT rfl (by conv => lhs; whnf)) ?_; refine Wo.nil ?_; refine Wc.yes rfl ?_; refine Wc.seq ?_; refine Wc.reg ?_; refine Wo.op (Step.move (by conv => lhs; whnf)) ?_; refine Wo.nil ?_; refine Wc.ret ⟨_, Rs.tmp (by conv => lhs; whnf) (Rs.nil), ?_⟩
    exact ⟨congrArg Value.bool (decide_eq_false (fun h => by have := h.1; omega)).symm, rfl⟩
  · refine Wo.on rfl ?_; refine Wo.op (Step.move (by conv => lhs; whnf)) ?_; refine Wo.on rfl ?_; refine Wo.op (Step.gtr (b := 6) rfl rfl) ?_; refine Wo.op (Step.pickF rfl (by conv => lhs; whnf)) ?_; refine Wo.op (Step.move (by conv => lhs; whnf)) ?_; refine Wo.cases (j := 12) rfl (fun hc12 => ?_) (fun hc12 => ?_)
    · refine Wo.off rfl rfl ?_; refine Wo.off rfl rfl ?_; refine Wo.off rfl rfl ?_; refine Wo.op (Step.pickT rfl (by conv => lhs; whnf)) ?_; refine Wo.nil ?_; refine Wc.yes rfl ?_; refine Wc.seq ?_; refine Wc.reg ?_; refine Wo.op (Step.move (by conv => lhs; whnf)) ?_; refine Wo.nil ?_; refine Wc.ret ⟨_, Rs.tmp (by conv => lhs; whnf) (Rs.nil), ?_⟩
      exact ⟨congrArg Value.bool (decide_eq_false (fun h => by have := h.2.1; omega)).symm, rfl⟩
    · refine Wo.on rfl ?_; refine Wo.op (Step.move (by conv => lhs; whnf)) ?_; refine Wo.on rfl ?_; refine Wo.op (Step.lenStrG rfl) ?_; refine Wo.on rfl ?_; refine Wo.op (Step.gtr (b := 2048) rfl rfl) ?_; refine Wo.op (Step.pickF rfl (by conv => lhs; whnf)) ?_; refine Wo.nil ?_; refine Wc.ite rfl (fun hc16 => ?_) (fun hc16 => ?_)
      · refine Wc.seq ?_; refine Wc.reg ?_; refine Wo.op (Step.move (by conv => lhs; whnf)) ?_; refine Wo.nil ?_; refine Wc.ret ⟨_, Rs.tmp (by conv => lhs; whnf) (Rs.nil), ?_⟩
        exact ⟨congrArg Value.bool (decide_eq_false (fun h => by have := h.2.2.1; omega)).symm, rfl⟩
      · refine Wc.skip ?_; refine Wc.seq ?_; refine Wc.seq ?_; refine Wc.reg ?_; refine Wo.op (Step.move (by conv => lhs; whnf)) ?_; refine Wo.nil ?_; refine Wc.mid (fun ρ' s' => (s' = s) ∧ (WordOk w k)) (Wc.block (Wc.loop (fun m ρ' s' => ∃ (i : Nat), (ρ' 0 = .string ⟨⟨w⟩⟩) ∧ (ρ' 1 = .int .i64 k) ∧ (ρ' 5 = .int .i64 ((i : Nat) : Int)) ∧ (m = w.length - i) ∧ (s' = s) ∧ (i ≤ w.length) ∧ (∀ c ∈ w.take i, 97 ≤ c.toNat ∧ (c.toNat : Int) - 97 < k)) ?_ ?_)) ?_
        · exact ⟨_, 0, rfl, rfl, rfl, rfl, rfl, by omega, by simp⟩
        · intro m ρ0 s0 hI
          obtain ⟨i, e0, e1, e5, hm, hs, hi, hz⟩ := hI
          refine Wc.fix (k := 0) e0 ?_; refine Wc.fix (k := 1) e1 ?_; refine Wc.fix (k := 5) e5 ?_
          subst hs
          have hg1 := getu_lt w i
          refine Wc.seq ?_; refine Wc.seq ?_; refine Wc.reg ?_; refine Wo.op (Step.move (by conv => lhs; whnf)) ?_; refine Wo.op (Step.move (by conv => lhs; whnf)) ?_; refine Wo.op (Step.lenStrG rfl) ?_; refine Wo.op (Step.lss rfl rfl) ?_; refine Wo.nil ?_; refine Wc.ite rfl (fun hc20 => ?_) (fun hc20 => ?_)
          · refine Wc.skip ?_; refine Wc.seq ?_; refine Wc.block ?_; refine Wc.seq ?_; refine Wc.reg ?_; refine Wo.op (Step.move (by conv => lhs; whnf)) ?_; refine Wo.op (Step.move (by conv => lhs; whnf)) ?_; refine Wo.op (Step.idxStrG rfl rfl (by omega) (by omega)) ?_; refine Wo.op (Step.lss (b := 97) rfl rfl) ?_; refine Wo.op (Step.move (by conv => lhs; whnf)) ?_; refine Wo.cases (j := 27) rfl (fun hc27 => ?_) (fun hc27 => ?_)
            · refine Wo.off rfl rfl ?_; refine Wo.off rfl rfl ?_; refine Wo.off rfl rfl ?_; refine Wo.off rfl rfl ?_; refine Wo.off rfl rfl ?_; refine Wo.off rfl rfl ?_; refine Wo.off rfl rfl ?_; refine Wo.op (Step.pickT rfl (by conv => lhs; whnf)) ?_; refine Wo.nil ?_; refine Wc.yes rfl ?_; refine Wc.seq ?_; refine Wc.reg ?_; refine Wo.op (Step.move (by conv => lhs; whnf)) ?_; refine Wo.nil ?_; refine Wc.ret ⟨_, Rs.tmp (by conv => lhs; whnf) (Rs.nil), ?_⟩
              exact ⟨congrArg Value.bool (decide_eq_false (fun h => by have := h.2.2.2 _ (getu_mem (i := i) (by omega) (by omega)); omega)).symm, rfl⟩
            · refine Wo.on rfl ?_; refine Wo.op (Step.move (by conv => lhs; whnf)) ?_; refine Wo.on rfl ?_; refine Wo.op (Step.move (by conv => lhs; whnf)) ?_; refine Wo.on rfl ?_; refine Wo.op (Step.idxStrG rfl rfl (by omega) (by omega)) ?_; refine Wo.on rfl ?_; refine Wo.op (Step.sub8 (b := 97) rfl rfl (by omega)) ?_; refine Wo.on rfl ?_; refine Wo.op (Step.conv64 rfl (by omega)) ?_; refine Wo.on rfl ?_; refine Wo.op (Step.move (by conv => lhs; whnf)) ?_; refine Wo.on rfl ?_; refine Wo.op (Step.geq rfl rfl) ?_; refine Wo.op (Step.pickF rfl (by conv => lhs; whnf)) ?_; refine Wo.nil ?_; refine Wc.ite rfl (fun hc35 => ?_) (fun hc35 => ?_)
              · refine Wc.seq ?_; refine Wc.reg ?_; refine Wo.op (Step.move (by conv => lhs; whnf)) ?_; refine Wo.nil ?_; refine Wc.ret ⟨_, Rs.tmp (by conv => lhs; whnf) (Rs.nil), ?_⟩
                exact ⟨congrArg Value.bool (decide_eq_false (fun h => by have := h.2.2.2 _ (getu_mem (i := i) (by omega) (by omega)); omega)).symm, rfl⟩
              · refine Wc.skip ?_; refine Wc.reg ?_; refine Wo.op (Step.move (by conv => lhs; whnf)) ?_; refine Wo.op (Step.add (b := 1) rfl rfl (by omega)) ?_; refine Wo.op (Step.move (by conv => lhs; whnf)) ?_; refine Wo.nil ?_; refine ⟨_, ?_, i + 1, rfl, rfl, rfl, rfl, rfl, by omega, by intro c hc; rw [take_getu (by omega), List.mem_append, List.mem_singleton] at hc; rcases hc with hc | rfl; exact hz c hc; omega⟩
                omega
          · refine Wc.exit ?_; refine .inl ⟨rfl, ?_⟩
            exact ⟨rfl, ⟨by omega, by omega, by omega, by rw [List.take_of_length_le (by omega)] at hz; exact hz⟩⟩
        · intro ρx0 sx0 hP
          obtain ⟨hs, hz⟩ := hP
          show Wc _ _ _ _ _ _ _
          subst hs
          refine Wc.seq ?_; refine Wc.reg ?_; refine Wo.op (Step.move (by conv => lhs; whnf)) ?_; refine Wo.nil ?_; refine Wc.ret ⟨_, Rs.tmp (by conv => lhs; whnf) (Rs.nil), ?_⟩
          exact ⟨congrArg Value.bool (decide_eq_true hz).symm, rfl⟩
theorem counting_next_ok {s : St} {P : Nat → Prop} {vI vP vA : Value} {idx per : List Int} {at' a : Int} (hI : IsInts s P vI idx) (hP : IsInts s P vP per) (hg : Good idx per) (h6 : idx.length ≤ 6) (hp : prod (mods idx per) ≤ 2000) (ha : 0 ≤ a ∧ a < idx.length) (hat : 0 ≤ at' ∧ at' < prod (mods idx per)) :
    Wf kprog n_counting_next [.agg ⟨[vI, vP, vA]⟩, .int .i64 at', .int .i64 a] s (fun v s' => v = .int .i64 (nextF idx per at' a) ∧ Pur s s') := by
  obtain ⟨hl, hgi, hgp⟩ := id hg
  have hmb : ∀ b : Int, 0 ≤ b → b < idx.length → 0 ≤ geti idx b ∧ 1 ≤ geti per b := fun b h0 h1 => ⟨hgi _ (geti_mem h0 h1), hgp _ (geti_mem h0 (by omega))⟩
  have hdr : ∀ b : Int, 0 ≤ b → b < idx.length → (mods idx per).drop b.toNat = (geti idx b + geti per b) :: (mods idx per).drop (b + 1).toNat := fun b h0 h1 => by
    have := mods_drop hg (i := b.toNat) (by omega)
    rw [this, show ((b.toNat : Nat) : Int) = b by omega, show (b + 1).toNat = b.toNat + 1 by omega]
  refine Wf.of p_counting_next rfl ?_
  unfold c_counting_next
  refine Wc.seq ?_; refine Wc.reg ?_; refine Wo.box (by conv => lhs; whnf) ?_; intro s1 e1 o3 n3
  have hI1 := hI.pur e1
  have hP1 := hP.pur e1
  refine Wo.op (Step.move (by conv => lhs; whnf)) ?_; refine Wo.nil ?_; refine Wc.seq ?_; refine Wc.reg ?_; refine Wo.op (Step.move (by conv => lhs; whnf)) ?_; refine Wo.nil ?_; refine Wc.seq ?_; refine Wc.seq ?_; refine Wc.reg ?_; refine Wo.op (Step.faddr rfl) ?_; refine Wo.op (Step.load rfl (by first | assumption | exact Own.row (by assumption)) (by rfl)) ?_; refine Wo.op (Step.lenSl rfl (by assumption)) ?_; refine Wo.op (Step.sub (b := 1) rfl rfl (by omega)) ?_; refine Wo.op (Step.move (by conv => lhs; whnf)) ?_; refine Wo.nil ?_; refine Wc.mid (fun ρ' s' => ∃ (u : Int), (ρ' 1 = .int .i64 at') ∧ (ρ' 2 = .int .i64 a) ∧ (ρ' 3 = ptrV s.nextId 0) ∧ (ρ' 7 = .int .i64 u) ∧ (s' = s1) ∧ (u = prod ((mods idx per).drop (a + 1).toNat))) (Wc.block (Wc.loop (fun m ρ' s' => ∃ (b : Int) (u : Int), (ρ' 1 = .int .i64 at') ∧ (ρ' 2 = .int .i64 a) ∧ (ρ' 3 = ptrV s.nextId 0) ∧ (ρ' 7 = .int .i64 u) ∧ (ρ' 8 = .int .i64 b) ∧ (m = (b + 1).toNat) ∧ (s' = s1) ∧ (a ≤ b ∧ b < idx.length) ∧ (u = prod ((mods idx per).drop (b + 1).toNat))) ?_ ?_)) ?_
  · exact ⟨_, _, 1, rfl, rfl, rfl, rfl, rfl, rfl, rfl, by omega, by rw [show (((idx.length : Nat) : Int) - 1 + 1).toNat = idx.length by omega, List.drop_eq_nil_of_le (by rw [mods_length hg]; omega)]; rfl⟩
  · intro m ρ0 s0 hI
    obtain ⟨b, u, e1, e2, e3, e7, e8, hm, hs, hb, hu⟩ := hI
    refine Wc.fix (k := 1) e1 ?_; refine Wc.fix (k := 2) e2 ?_; refine Wc.fix (k := 3) e3 ?_; refine Wc.fix (k := 7) e7 ?_; refine Wc.fix (k := 8) e8 ?_
    subst hs
    have hu0 := prod_drop_le hg (b + 1).toNat
    rw [← hu] at hu0
    refine Wc.seq ?_; refine Wc.seq ?_; refine Wc.reg ?_; refine Wo.op (Step.move (by conv => lhs; whnf)) ?_; refine Wo.op (Step.move (by conv => lhs; whnf)) ?_; refine Wo.op (Step.gtr rfl rfl) ?_; refine Wo.nil ?_; refine Wc.ite rfl (fun hc16 => ?_) (fun hc16 => ?_)
    · refine Wc.skip ?_; refine Wc.seq ?_; refine Wc.block ?_; refine Wc.draw ?_
      have hbm := hmb b (by omega) (by omega)
      have hdb : prod ((mods idx per).drop b.toNat) ≤ prod (mods idx per) := (prod_drop_le hg b.toNat).2
      rw [hdr b (by omega) (by omega)] at hdb
      simp only [prod] at hdb
      rw [← hu] at hdb
      have hmm : geti idx b + geti per b ≤ 2000 := by
        have := Int.mul_le_mul_of_nonneg_left hu0.1 (show 0 ≤ geti idx b + geti per b by omega)
        omega
      have hmu : u * (geti idx b + geti per b) = (geti idx b + geti per b) * u := Int.mul_comm ..
      have hmu0 : 0 ≤ (geti idx b + geti per b) * u := Int.mul_nonneg (by omega) (by omega)
      refine Wd.pure rfl (Step.move (by conv => lhs; whnf)) ?_; refine Wd.pure rfl (Step.faddr rfl) ?_; refine Wd.read rfl (Step.load rfl (by first | assumption | exact Own.row (by assumption)) (by rfl)) ?_; refine Wd.pure rfl (Step.move (by conv => lhs; whnf)) ?_
      first | refine Wd.idxI rfl (by assumption) rfl (by omega) (by omega) ?_ | refine Wd.idxB rfl (by assumption) rfl (by omega) (by omega) ?_ | refine Wd.idxU rfl (by assumption) rfl (by omega) (by omega) ?_
      intro p23; refine Wd.pure rfl (Step.faddr rfl) ?_; refine Wd.read rfl (Step.load rfl (by first | assumption | exact Own.row (by assumption)) (by rfl)) ?_; refine Wd.pure rfl (Step.move (by conv => lhs; whnf)) ?_
      first | refine Wd.idxI rfl (by assumption) rfl (by omega) (by omega) ?_ | refine Wd.idxB rfl (by assumption) rfl (by omega) (by omega) ?_ | refine Wd.idxU rfl (by assumption) rfl (by omega) (by omega) ?_
      intro p28; refine Wd.pure rfl (Step.add rfl rfl (by omega)) ?_; refine Wd.pure rfl (Step.mul rfl rfl (by omega)) ?_; refine Wd.pure rfl (Step.move (by conv => lhs; whnf)) ?_; refine Wd.nil ?_; refine Wc.reg ?_; refine Wo.op (Step.move (by conv => lhs; whnf)) ?_; refine Wo.op (Step.sub (b := 1) rfl rfl (by omega)) ?_; refine Wo.op (Step.move (by conv => lhs; whnf)) ?_; refine Wo.nil ?_; refine ⟨_, ?_, b - 1, _, rfl, rfl, rfl, rfl, rfl, rfl, rfl, by omega, by rw [show (b - 1 + 1).toNat = b.toNat by omega, hdr b (by omega) (by omega), hu]; simp only [prod]; rw [Int.mul_comm]⟩
      omega
    · refine Wc.exit ?_; refine .inl ⟨rfl, ?_⟩
      exact ⟨u, rfl, rfl, rfl, rfl, rfl, by rw [hu, show b = a by omega]⟩
  · intro ρx0 sx0 hP
    obtain ⟨u, e1, e2, e3, e7, hs, hu⟩ := hP
    show Wc _ _ _ _ _ _ _
    refine Wc.fix (k := 1) e1 ?_; refine Wc.fix (k := 2) e2 ?_; refine Wc.fix (k := 3) e3 ?_; refine Wc.fix (k := 7) e7 ?_
    subst hs
    have hu1 := prod_drop_le hg (a + 1).toNat
    have ham := hmb a ha.1 ha.2
    have hq0 : 0 ≤ at' / u := Int.ediv_nonneg hat.1 (by omega)
    have hq1 : at' / u ≤ at' := Int.ediv_le_self u hat.1
    have hr0 := Int.emod_nonneg (at' / u) (show geti idx a + geti per a ≠ 0 by omega)
    have hr1 := Int.emod_lt_of_pos (at' / u) (show 0 < geti idx a + geti per a by omega)
    have hda : prod ((mods idx per).drop a.toNat) ≤ prod (mods idx per) := (prod_drop_le hg a.toNat).2
    rw [hdr a ha.1 ha.2] at hda
    simp only [prod] at hda
    rw [← hu] at hda hu1
    have hmm : geti idx a + geti per a ≤ 2000 := by
      have := Int.mul_le_mul_of_nonneg_left hu1.1 (show 0 ≤ geti idx a + geti per a by omega)
      omega
    refine Wc.seq ?_; refine Wc.draw ?_; refine Wd.pure rfl (Step.move (by conv => lhs; whnf)) ?_; refine Wd.pure rfl (Step.move (by conv => lhs; whnf)) ?_; refine Wd.pure rfl (Step.quo rfl rfl (by omega)) ?_; refine Wd.pure rfl (Step.faddr rfl) ?_; refine Wd.read rfl (Step.load rfl (by first | assumption | exact Own.row (by assumption)) (by rfl)) ?_; refine Wd.pure rfl (Step.move (by conv => lhs; whnf)) ?_
    first | refine Wd.idxI rfl (by assumption) rfl (by omega) (by omega) ?_ | refine Wd.idxB rfl (by assumption) rfl (by omega) (by omega) ?_ | refine Wd.idxU rfl (by assumption) rfl (by omega) (by omega) ?_
    intro p38; refine Wd.pure rfl (Step.faddr rfl) ?_; refine Wd.read rfl (Step.load rfl (by first | assumption | exact Own.row (by assumption)) (by rfl)) ?_; refine Wd.pure rfl (Step.move (by conv => lhs; whnf)) ?_
    first | refine Wd.idxI rfl (by assumption) rfl (by omega) (by omega) ?_ | refine Wd.idxB rfl (by assumption) rfl (by omega) (by omega) ?_ | refine Wd.idxU rfl (by assumption) rfl (by omega) (by omega) ?_
    intro p43; refine Wd.pure rfl (Step.add rfl rfl (by omega)) ?_; refine Wd.pure rfl (Step.rem rfl rfl (by omega)) ?_; refine Wd.pure rfl (Step.move (by conv => lhs; whnf)) ?_; refine Wd.nil ?_; refine Wc.seq ?_; refine Wc.seq ?_; refine Wc.draw ?_; refine Wd.pure rfl (Step.move (by conv => lhs; whnf)) ?_; refine Wd.pure rfl (Step.add (b := 1) rfl rfl (by omega)) ?_; refine Wd.pure rfl (Step.faddr rfl) ?_; refine Wd.read rfl (Step.load rfl (by first | assumption | exact Own.row (by assumption)) (by rfl)) ?_; refine Wd.pure rfl (Step.move (by conv => lhs; whnf)) ?_
    first | refine Wd.idxI rfl (by assumption) rfl (by omega) (by omega) ?_ | refine Wd.idxB rfl (by assumption) rfl (by omega) (by omega) ?_ | refine Wd.idxU rfl (by assumption) rfl (by omega) (by omega) ?_
    intro p52; refine Wd.pure rfl (Step.faddr rfl) ?_; refine Wd.read rfl (Step.load rfl (by first | assumption | exact Own.row (by assumption)) (by rfl)) ?_; refine Wd.pure rfl (Step.move (by conv => lhs; whnf)) ?_
    first | refine Wd.idxI rfl (by assumption) rfl (by omega) (by omega) ?_ | refine Wd.idxB rfl (by assumption) rfl (by omega) (by omega) ?_ | refine Wd.idxU rfl (by assumption) rfl (by omega) (by omega) ?_
    intro p57; refine Wd.pure rfl (Step.add rfl rfl (by omega)) ?_; refine Wd.pure rfl (Step.eql rfl rfl) ?_; refine Wd.nil ?_; refine Wc.ite rfl (fun hc60 => ?_) (fun hc60 => ?_)
    · refine Wc.seq ?_; refine Wc.reg ?_
      have hmn := mul_bnd (a := at' / u % (geti idx a + geti per a) - geti idx a) (b := u) (A := 2000) (B := 2000) (by omega) (by omega)
      refine Wo.op (Step.move (by conv => lhs; whnf)) ?_; refine Wo.op (Step.move (by conv => lhs; whnf)) ?_; refine Wo.op (Step.faddr rfl) ?_; refine Wo.op (Step.load rfl (by first | assumption | exact Own.row (by assumption)) (by rfl)) ?_; refine Wo.op (Step.move (by conv => lhs; whnf)) ?_
      first | refine Wo.idxI rfl (by assumption) rfl (by omega) (by omega) ?_ | refine Wo.idxB rfl (by assumption) rfl (by omega) (by omega) ?_ | refine Wo.idxU rfl (by assumption) rfl (by omega) (by omega) ?_
      intro p66; refine Wo.op (Step.sub rfl rfl (by omega)) ?_; refine Wo.op (Step.move (by conv => lhs; whnf)) ?_; refine Wo.op (Step.mul rfl rfl (by omega)) ?_; refine Wo.op (Step.sub rfl rfl (by omega)) ?_; refine Wo.op (Step.move (by conv => lhs; whnf)) ?_; refine Wo.nil ?_; refine Wc.ret ⟨_, Rs.tmp (by conv => lhs; whnf) (Rs.nil), ?_⟩; refine ⟨congrArg (Value.int .i64) ?_, e1⟩
      unfold nextF
      rw [← hu, if_pos hc60]
    · refine Wc.skip ?_; refine Wc.seq ?_; refine Wc.reg ?_; refine Wo.op (Step.move (by conv => lhs; whnf)) ?_; refine Wo.op (Step.move (by conv => lhs; whnf)) ?_; refine Wo.op (Step.add rfl rfl (by omega)) ?_; refine Wo.op (Step.move (by conv => lhs; whnf)) ?_; refine Wo.nil ?_; refine Wc.ret ⟨_, Rs.tmp (by conv => lhs; whnf) (Rs.nil), ?_⟩; refine ⟨congrArg (Value.int .i64) ?_, e1⟩
      unfold nextF
      rw [← hu, if_neg hc60]
theorem counting_Validate_ok {s : St} {P : Nat → Prop} {vI vP vA : Value} {idx per : List Int} {acc : List Bool} (hI : IsInts s P vI idx) (hP : IsInts s P vP per) (hA : IsBools s P vA acc) :
    Wf kprog n_counting_Validate [.agg ⟨[vI, vP, vA]⟩] s (fun v s' => v = .int .i64 (validF idx per acc.length) ∧ Pur s s') := by
  refine Wf.of p_counting_Validate rfl ?_
  unfold c_counting_Validate
  refine Wc.seq ?_; refine Wc.reg ?_; refine Wo.box (by conv => lhs; whnf) ?_; intro sB1 eB1 oB1 nB1
  have hI1 := hI.pur eB1
  have hP1 := hP.pur eB1
  have hA1 := hA.pur eB1
  refine Wo.op (Step.move (by conv => lhs; whnf)) ?_; refine Wo.nil ?_; refine Wc.seq ?_; refine Wc.seq ?_; refine Wc.reg ?_; refine Wo.op (Step.faddr rfl) ?_; refine Wo.op (Step.load rfl (by first | assumption | exact Own.row (by assumption)) (by rfl)) ?_; refine Wo.op (Step.lenSl rfl (by assumption)) ?_; refine Wo.op (Step.lss (b := 1) rfl rfl) ?_; refine Wo.op (Step.move (by conv => lhs; whnf)) ?_; refine Wo.cases (j := 9) rfl (fun hc9 => ?_) (fun hc9 => ?_)
  · refine Wo.off rfl rfl ?_; refine Wo.off rfl rfl ?_; refine Wo.off rfl rfl ?_; refine Wo.off rfl rfl ?_; refine Wo.op (Step.pickT rfl (by conv => lhs; whnf)) ?_; refine Wo.nil ?_; refine Wc.yes rfl ?_; refine Wc.seq ?_; refine Wc.reg ?_; refine Wo.op (Step.move (by conv => lhs; whnf)) ?_; refine Wo.nil ?_; refine Wc.ret ⟨_, Rs.tmp (by conv => lhs; whnf) (Rs.nil), ?_⟩
    exact ⟨congrArg (Value.int .i64) (by unfold validF; rw [if_pos (by omega)]; rfl), eB1⟩
  · refine Wo.on rfl ?_; refine Wo.op (Step.faddr rfl) ?_; refine Wo.on rfl ?_; refine Wo.op (Step.load rfl (by first | assumption | exact Own.row (by assumption)) (by rfl)) ?_; refine Wo.on rfl ?_; refine Wo.op (Step.lenSl rfl (by assumption)) ?_; refine Wo.on rfl ?_; refine Wo.op (Step.gtr (b := 6) rfl rfl) ?_; refine Wo.op (Step.pickF rfl (by conv => lhs; whnf)) ?_; refine Wo.nil ?_; refine Wc.ite rfl (fun hc14 => ?_) (fun hc14 => ?_)
    · refine Wc.seq ?_; refine Wc.reg ?_; refine Wo.op (Step.move (by conv => lhs; whnf)) ?_; refine Wo.nil ?_; refine Wc.ret ⟨_, Rs.tmp (by conv => lhs; whnf) (Rs.nil), ?_⟩
      exact ⟨congrArg (Value.int .i64) (by unfold validF; rw [if_pos (by omega)]; rfl), eB1⟩
    · refine Wc.skip ?_; refine Wc.seq ?_; refine Wc.seq ?_; refine Wc.reg ?_; refine Wo.op (Step.faddr rfl) ?_; refine Wo.op (Step.load rfl (by first | assumption | exact Own.row (by assumption)) (by rfl)) ?_; refine Wo.op (Step.lenSl rfl (by assumption)) ?_; refine Wo.op (Step.faddr rfl) ?_; refine Wo.op (Step.load rfl (by first | assumption | exact Own.row (by assumption)) (by rfl)) ?_; refine Wo.op (Step.lenSl rfl (by assumption)) ?_; refine Wo.op (Step.neq rfl rfl) ?_; refine Wo.nil ?_; refine Wc.ite rfl (fun hc21 => ?_) (fun hc21 => ?_)
      · refine Wc.seq ?_; refine Wc.reg ?_; refine Wo.op (Step.move (by conv => lhs; whnf)) ?_; refine Wo.nil ?_; refine Wc.ret ⟨_, Rs.tmp (by conv => lhs; whnf) (Rs.nil), ?_⟩
        exact ⟨congrArg (Value.int .i64) (by unfold validF; rw [if_neg (by omega), if_pos (by omega)]; rfl), eB1⟩
      · refine Wc.skip ?_; refine Wc.seq ?_; refine Wc.seq ?_; refine Wc.reg ?_; refine Wo.op (Step.faddr rfl) ?_; refine Wo.op (Step.load rfl (by first | assumption | exact Own.row (by assumption)) (by rfl)) ?_; refine Wo.op (Step.lenSl rfl (by assumption)) ?_; refine Wo.op (Step.move (by conv => lhs; whnf)) ?_; refine Wo.nil ?_; refine Wc.mid (fun ρ' s' => (ρ' 1 = ptrV s.nextId 0) ∧ (s' = sB1) ∧ (∀ j, j < idx.length → 0 ≤ geti idx (j : Nat) ∧ 1 ≤ geti per (j : Nat))) (Wc.block (Wc.loop (fun m ρ' s' => ∃ (i : Nat), (ρ' 1 = ptrV s.nextId 0) ∧ (ρ' 24 = .int .i64 ((idx.length : Nat) : Int)) ∧ (ρ' 25 = .int .i64 ((i : Nat) : Int)) ∧ (m = idx.length - i) ∧ (s' = sB1) ∧ (i ≤ idx.length) ∧ (∀ j, j < i → 0 ≤ geti idx (j : Nat) ∧ 1 ≤ geti per (j : Nat))) ?_ ?_)) ?_
        · exact ⟨_, 0, rfl, rfl, rfl, rfl, rfl, by omega, by intro j hj; omega⟩
        · intro m ρ0 s0 hI
          obtain ⟨i, e1, e24, e25, hm, hs, hi, hz⟩ := hI
          refine Wc.fix (k := 1) e1 ?_; refine Wc.fix (k := 24) e24 ?_; refine Wc.fix (k := 25) e25 ?_
          subst hs
          refine Wc.seq ?_; refine Wc.reg ?_; refine Wo.op (Step.lss rfl rfl) ?_; refine Wo.nil ?_; refine Wc.seq ?_; refine Wc.ite rfl (fun hc26 => ?_) (fun hc26 => ?_)
          · refine Wc.skip ?_; refine Wc.seq ?_; refine Wc.block ?_; refine Wc.seq ?_; refine Wc.reg ?_; refine Wo.op (Step.move (by conv => lhs; whnf)) ?_; refine Wo.op (Step.move (by conv => lhs; whnf)) ?_; refine Wo.nil ?_; refine Wc.seq ?_; refine Wc.reg ?_; refine Wo.op (Step.faddr rfl) ?_; refine Wo.op (Step.load rfl (by first | assumption | exact Own.row (by assumption)) (by rfl)) ?_; refine Wo.op (Step.move (by conv => lhs; whnf)) ?_
            first | refine Wo.idxI rfl (by assumption) rfl (by omega) (by omega) ?_ | refine Wo.idxB rfl (by assumption) rfl (by omega) (by omega) ?_ | refine Wo.idxU rfl (by assumption) rfl (by omega) (by omega) ?_
            intro p31; refine Wo.op (Step.lss (b := 0) rfl rfl) ?_; refine Wo.op (Step.move (by conv => lhs; whnf)) ?_; refine Wo.cases (j := 34) rfl (fun hc34 => ?_) (fun hc34 => ?_)
            · refine Wo.off rfl rfl ?_; refine Wo.off rfl rfl ?_; refine Wo.off rfl rfl ?_; refine Wo.off rfl rfl ?_; refine Wo.off rfl rfl ?_; refine Wo.off rfl rfl ?_; refine Wo.op (Step.pickT rfl (by conv => lhs; whnf)) ?_; refine Wo.nil ?_; refine Wc.yes rfl ?_; refine Wc.seq ?_; refine Wc.reg ?_; refine Wo.op (Step.move (by conv => lhs; whnf)) ?_; refine Wo.nil ?_; refine Wc.ret ⟨_, Rs.tmp (by conv => lhs; whnf) (Rs.nil), ?_⟩
              exact ⟨congrArg (Value.int .i64) (by unfold validF; rw [if_neg (by omega), if_neg (by omega), if_pos ⟨i, by omega, by omega⟩]; rfl), eB1⟩
            · refine Wo.on rfl ?_; refine Wo.op (Step.faddr rfl) ?_; refine Wo.on rfl ?_; refine Wo.op (Step.load rfl (by first | assumption | exact Own.row (by assumption)) (by rfl)) ?_; refine Wo.on rfl ?_; refine Wo.op (Step.move (by conv => lhs; whnf)) ?_; refine Wo.on2 rfl (by decide) ?_
              first | refine Wo.idxI rfl (by assumption) rfl (by omega) (by omega) ?_ | refine Wo.idxB rfl (by assumption) rfl (by omega) (by omega) ?_ | refine Wo.idxU rfl (by assumption) rfl (by omega) (by omega) ?_
              intro p38; refine Wo.on rfl ?_; refine Wo.op (Step.lss (b := 1) rfl rfl) ?_; refine Wo.op (Step.pickF rfl (by conv => lhs; whnf)) ?_; refine Wo.nil ?_; refine Wc.ite rfl (fun hc41 => ?_) (fun hc41 => ?_)
              · refine Wc.seq ?_; refine Wc.reg ?_; refine Wo.op (Step.move (by conv => lhs; whnf)) ?_; refine Wo.nil ?_; refine Wc.ret ⟨_, Rs.tmp (by conv => lhs; whnf) (Rs.nil), ?_⟩
                exact ⟨congrArg (Value.int .i64) (by unfold validF; rw [if_neg (by omega), if_neg (by omega), if_pos ⟨i, by omega, by omega⟩]; rfl), eB1⟩
              · refine Wc.skip ?_; refine Wc.reg ?_; refine Wo.op (Step.add (b := 1) rfl rfl (by omega)) ?_; refine Wo.op (Step.move (by conv => lhs; whnf)) ?_; refine Wo.nil ?_; refine ⟨_, ?_, i + 1, rfl, rfl, rfl, rfl, rfl, by omega, by intro j hj; by_cases e : j = i; subst e; omega; exact hz j (by omega)⟩
                omega
          · refine Wc.exit ?_; refine .inl ⟨rfl, ?_⟩
            exact ⟨rfl, rfl, fun j hj => hz j (by omega)⟩
        · intro ρx0 sx0 hP
          obtain ⟨e1, hs, hz⟩ := hP
          show Wc _ _ _ _ _ _ _
          refine Wc.fix (k := 1) e1 ?_
          subst hs
          have hg := good_of (by omega) hz
          have hpp := prod_pos (mods_pos hg)
          have hsz := sizeL_eq (n := 1) hg (by omega) (by omega)
          rw [Int.one_mul] at hsz
          have hnb : ¬ ∃ i, i < idx.length ∧ (geti idx (i : Nat) < 0 ∨ geti per (i : Nat) < 1) := fun ⟨j, hj, hh⟩ => by have := hz j hj; omega
          refine Wc.seq ?_; refine Wc.reg ?_; refine Wo.op (Step.faddr rfl) ?_; refine Wo.op (Step.load rfl (by first | assumption | exact Own.row (by assumption)) (by rfl)) ?_; refine Wo.op (Step.faddr rfl) ?_; refine Wo.op (Step.load rfl (by first | assumption | exact Own.row (by assumption)) (by rfl)) ?_
          -- call counting_size
          refine Wo.call (Wf.mono (counting_size_ok hI1 hP1 hg (by omega)) ?_)
          rintro _ _ ⟨rfl, rfl⟩
          refine Wo.op (Step.move (by conv => lhs; whnf)) ?_; refine Wo.nil ?_; refine Wc.seq ?_; refine Wc.seq ?_; refine Wc.reg ?_; refine Wo.op (Step.move (by conv => lhs; whnf)) ?_; refine Wo.op (Step.gtr (b := 2000) rfl rfl) ?_; refine Wo.nil ?_; refine Wc.ite rfl (fun hc49 => ?_) (fun hc49 => ?_)
          · refine Wc.seq ?_; refine Wc.reg ?_; refine Wo.op (Step.move (by conv => lhs; whnf)) ?_; refine Wo.nil ?_; refine Wc.ret ⟨_, Rs.tmp (by conv => lhs; whnf) (Rs.nil), ?_⟩
            exact ⟨congrArg (Value.int .i64) (by unfold validF; rw [if_neg (by omega), if_neg (by omega), if_neg hnb, if_pos (by rw [hsz] at hc49; split at hc49 <;> omega)]; rfl), eB1⟩
          · refine Wc.skip ?_; refine Wc.seq ?_; refine Wc.seq ?_; refine Wc.reg ?_; refine Wo.op (Step.faddr rfl) ?_; refine Wo.op (Step.load rfl (by first | assumption | exact Own.row (by assumption)) (by rfl)) ?_; refine Wo.op (Step.lenSl rfl (by assumption)) ?_; refine Wo.op (Step.move (by conv => lhs; whnf)) ?_; refine Wo.op (Step.neq rfl rfl) ?_; refine Wo.nil ?_; refine Wc.ite rfl (fun hc54 => ?_) (fun hc54 => ?_)
            · refine Wc.seq ?_; refine Wc.reg ?_; refine Wo.op (Step.move (by conv => lhs; whnf)) ?_; refine Wo.nil ?_; refine Wc.ret ⟨_, Rs.tmp (by conv => lhs; whnf) (Rs.nil), ?_⟩
              exact ⟨congrArg (Value.int .i64) (by unfold validF; rw [if_neg (by omega), if_neg (by omega), if_neg hnb, if_neg (by rw [hsz] at hc49; split at hc49 <;> omega), if_pos (by rw [hsz] at hc49 hc54; split at hc49 <;> simp_all)]; rfl), eB1⟩
            · refine Wc.skip ?_; refine Wc.seq ?_; refine Wc.reg ?_; refine Wo.op (Step.move (by conv => lhs; whnf)) ?_; refine Wo.nil ?_; refine Wc.ret ⟨_, Rs.tmp (by conv => lhs; whnf) (Rs.nil), ?_⟩
              exact ⟨congrArg (Value.int .i64) (by unfold validF; rw [if_neg (by omega), if_neg (by omega), if_neg hnb, if_neg (by rw [hsz] at hc49; split at hc49 <;> omega), if_neg (by rw [hsz] at hc49 hc54; split at hc49 <;> simp_all)]; rfl), eB1⟩
theorem counting_Match_ok {s : St} {P : Nat → Prop} {vI vP vA : Value} {idx per : List Int} {acc : List Bool} {w : List UInt8} (hI : IsInts s P vI idx) (hP : IsInts s P vP per) (hA : IsBools s P vA acc) (hw : w.length < 9223372036854775807) :
    Wf kprog n_counting_Match [.agg ⟨[vI, vP, vA]⟩, .string ⟨⟨w⟩⟩] s (fun v s' => v = .bool (matchF idx per acc w) ∧ Pur s s') := by
  refine Wf.of p_counting_Match rfl ?_
  unfold c_counting_Match
  refine Wc.seq ?_; refine Wc.reg ?_; refine Wo.box (by conv => lhs; whnf) ?_; intro sB2 eB2 oB2 nB2
  have hI1 := hI.pur eB2
  have hP1 := hP.pur eB2
  have hA1 := hA.pur eB2
  refine Wo.op (Step.move (by conv => lhs; whnf)) ?_; refine Wo.nil ?_; refine Wc.seq ?_; refine Wc.seq ?_; refine Wc.reg ?_; refine Wo.op (Step.loadN rfl (by first | assumption | exact Own.row (by assumption)) (by rfl)) ?_
  -- call counting_Validate
  refine Wo.call (Wf.mono (counting_Validate_ok hI1 hP1 hA1) ?_)
  rintro _ s2 ⟨rfl, eV⟩
  have hI2 := hI1.pur eV
  have hP2 := hP1.pur eV
  have hA2 := hA1.pur eV
  have oB2 := oB2.pur eV
  refine Wo.op (Step.neq (b := 0) rfl rfl) ?_; refine Wo.op (Step.move (by conv => lhs; whnf)) ?_; refine Wo.cases (j := 10) rfl (fun hc10 => ?_) (fun hc10 => ?_)
  · refine Wo.off rfl rfl ?_; refine Wo.off rfl rfl ?_; refine Wo.off rfl rfl ?_; refine Wo.off rfl rfl ?_; refine Wo.off rfl rfl ?_; refine Wo.off rfl rfl ?_; refine Wo.op (Step.pickT rfl (by conv => lhs; whnf)) ?_; refine Wo.nil ?_; refine Wc.yes rfl ?_; refine Wc.seq ?_; refine Wc.reg ?_; refine Wo.op (Step.move (by conv => lhs; whnf)) ?_; refine Wo.nil ?_; refine Wc.ret ⟨_, Rs.tmp (by conv => lhs; whnf) (Rs.nil), ?_⟩
    exact ⟨congrArg Value.bool (by unfold matchF; rw [decide_eq_false hc10]; rfl), eB2.trans eV⟩
  · have hv0 : validF idx per acc.length = 0 := by simpa using hc10
    obtain ⟨hg, hl1, hl6, hpr, hacc⟩ := validF_good hv0
    refine Wo.on rfl ?_; refine Wo.op (Step.move (by conv => lhs; whnf)) ?_; refine Wo.on rfl ?_; refine Wo.op (Step.faddr rfl) ?_; refine Wo.on rfl ?_; refine Wo.op (Step.load rfl (by first | assumption | exact Own.row (by assumption)) (by rfl)) ?_; refine Wo.on rfl ?_; refine Wo.op (Step.lenSl rfl (by assumption)) ?_; refine Wo.on rfl ?_
    -- call word_Valid
    refine Wo.call (Wf.mono (word_Valid_ok (w := w) (k := ((idx.length : Nat) : Int)) (by omega) hw) ?_)
    rintro _ _ ⟨rfl, rfl⟩
    refine Wo.on rfl ?_; refine Wo.op (Step.notD rfl) ?_; refine Wo.op (Step.pickF rfl (by conv => lhs; whnf)) ?_; refine Wo.nil ?_; refine Wc.ite rfl (fun hc17 => ?_) (fun hc17 => ?_)
    · refine Wc.seq ?_; refine Wc.reg ?_; refine Wo.op (Step.move (by conv => lhs; whnf)) ?_; refine Wo.nil ?_; refine Wc.ret ⟨_, Rs.tmp (by conv => lhs; whnf) (Rs.nil), ?_⟩
      exact ⟨congrArg Value.bool (by unfold matchF; rw [decide_eq_false hc17]; simp), eB2.trans eV⟩
    · have hwk : WordOk w idx.length := by simpa using hc17
      refine Wc.skip ?_; refine Wc.seq ?_; refine Wc.reg ?_; refine Wo.op (Step.move (by conv => lhs; whnf)) ?_; refine Wo.nil ?_; refine Wc.seq ?_; refine Wc.seq ?_; refine Wc.reg ?_; refine Wo.op (Step.move (by conv => lhs; whnf)) ?_; refine Wo.nil ?_; refine Wc.mid (fun ρ' s' => (ρ' 2 = ptrV s.nextId 0) ∧ (ρ' 5 = .int .i64 (encA idx per (cnts idx.length w))) ∧ (Pur s2 s')) (Wc.block (Wc.loop (fun m ρ' s' => ∃ (i : Nat), (ρ' 1 = .string ⟨⟨w⟩⟩) ∧ (ρ' 2 = ptrV s.nextId 0) ∧ (ρ' 5 = .int .i64 (encA idx per (cnts idx.length (w.take i)))) ∧ (ρ' 6 = .int .i64 ((i : Nat) : Int)) ∧ (m = w.length - i) ∧ (Pur s2 s') ∧ (i ≤ w.length)) ?_ ?_)) ?_
      · exact ⟨_, 0, rfl, rfl, congrArg (Value.int .i64) (by rw [List.take_zero, cnts_nil, encA_nil hg]; rfl), rfl, rfl, Chg.refl _, by omega⟩
      · intro m ρ0 s0 hI
        obtain ⟨i, e1, e2, e5, e6, hm, hs, hi⟩ := hI
        refine Wc.fix (k := 1) e1 ?_; refine Wc.fix (k := 2) e2 ?_; refine Wc.fix (k := 5) e5 ?_; refine Wc.fix (k := 6) e6 ?_
        have oB2 := oB2.pur hs
        have hI3 := hI2.pur hs
        have hP3 := hP2.pur hs
        have hr := encA_range (ns := cnts idx.length (w.take i)) hg (cnts_nonneg _ _) (cnts_length _ _)
        refine Wc.seq ?_; refine Wc.seq ?_; refine Wc.reg ?_; refine Wo.op (Step.move (by conv => lhs; whnf)) ?_; refine Wo.op (Step.move (by conv => lhs; whnf)) ?_; refine Wo.op (Step.lenStrG rfl) ?_; refine Wo.op (Step.lss rfl rfl) ?_; refine Wo.nil ?_; refine Wc.ite rfl (fun hc21 => ?_) (fun hc21 => ?_)
        · refine Wc.skip ?_; refine Wc.seq ?_; refine Wc.block ?_; refine Wc.draw ?_
          have hch := hwk.2.2.2 _ (getu_mem (w := w) (i := i) (by omega) (by omega))
          have hlt := getu_lt w i
          refine Wd.read rfl (Step.loadN rfl (by first | assumption | exact Own.row (by assumption)) (by rfl)) ?_; refine Wd.pure rfl (Step.move (by conv => lhs; whnf)) ?_; refine Wd.pure rfl (Step.move (by conv => lhs; whnf)) ?_; refine Wd.pure rfl (Step.move (by conv => lhs; whnf)) ?_; refine Wd.pure rfl (Step.idxStrG rfl rfl (by omega) (by omega)) ?_; refine Wd.pure rfl (Step.sub8 (b := 97) rfl rfl (by omega)) ?_; refine Wd.pure rfl (Step.conv64 rfl (by omega)) ?_
          -- call counting_next
          refine Wd.call (Wf.mono (counting_next_ok hI3 hP3 hg hl6 hpr (by omega) hr) ?_)
          rintro _ s3 ⟨rfl, e3⟩
          refine ⟨by simp, ?_⟩; refine Wd.pure rfl (Step.move (by conv => lhs; whnf)) ?_; refine Wd.nil ?_; refine Wc.reg ?_; refine Wo.op (Step.move (by conv => lhs; whnf)) ?_; refine Wo.op (Step.add (b := 1) rfl rfl (by omega)) ?_; refine Wo.op (Step.move (by conv => lhs; whnf)) ?_; refine Wo.nil ?_; refine ⟨_, ?_, i + 1, rfl, rfl, congrArg (Value.int .i64) ?_, rfl, rfl, hs.trans e3, by omega⟩
          omega
          obtain ⟨a, ha⟩ : ∃ a : Nat, (getu w i).toNat = 97 + a := ⟨(getu w i).toNat - 97, by omega⟩
          rw [take_getu (by omega), cnts_snoc ha, ← nextF_enc hg (cnts_nonneg _ _) (cnts_length _ _) (by omega)]
          rw [show (((getu w i).toNat : Nat) : Int) - 97 = (a : Int) by omega]
        · refine Wc.exit ?_; refine .inl ⟨rfl, ?_⟩
          exact ⟨rfl, congrArg (Value.int .i64) (by rw [List.take_of_length_le (by omega)]), hs⟩
      · intro ρx0 sx0 hP
        obtain ⟨e2, e5, hs⟩ := hP
        show Wc _ _ _ _ _ _ _
        refine Wc.fix (k := 2) e2 ?_; refine Wc.fix (k := 5) e5 ?_
        have hr := encA_range (ns := cnts idx.length w) hg (cnts_nonneg _ _) (cnts_length _ _)
        have oB2 := oB2.pur hs
        have hA3 := hA2.pur hs
        refine Wc.seq ?_; refine Wc.reg ?_; refine Wo.op (Step.faddr rfl) ?_; refine Wo.op (Step.load rfl (by first | assumption | exact Own.row (by assumption)) (by rfl)) ?_; refine Wo.op (Step.move (by conv => lhs; whnf)) ?_
        first | refine Wo.idxI rfl (by assumption) rfl (by omega) (by omega) ?_ | refine Wo.idxB rfl (by assumption) rfl (by omega) (by omega) ?_ | refine Wo.idxU rfl (by assumption) rfl (by omega) (by omega) ?_
        intro p35; refine Wo.op (Step.move (by conv => lhs; whnf)) ?_; refine Wo.nil ?_; refine Wc.ret ⟨_, Rs.tmp (by conv => lhs; whnf) (Rs.nil), ?_⟩
        exact ⟨congrArg Value.bool (by unfold matchF; rw [decide_eq_true hv0, decide_eq_true hwk]; rfl), (eB2.trans eV).trans hs⟩
end Go.EvK
end

section
set_option linter.unusedVariables false
set_option maxRecDepth 100000
set_option maxHeartbeats 4000000
namespace Go.EvK
open Go Go.Ev Go.EvW Go.Co Go.Aut
theorem machine_trim_ok {s : St} {P : Nat → Prop} {k : Nat} {st : Int} {vF vN : Value} {F : List Bool} {R : List (List Int)} (hF : IsBools s P vF F) (hN : IsRows s P vN R) (hPN : ∀ A, P A → A < s.nextId) (hA : AutOk k st F R) (hn : F.length ≤ 1000000) (hk : k ≤ 26) :
    Wf kprog n_machine_trim [.agg ⟨[.int .i64 ((k : Nat) : Int), .int .i64 st, vF, vN]⟩] s (fun v s' => ∃ vF' vN' vs' G ord, Bfs (faOf st F R).d k (faOf st F R).s ord ∧ (∀ q ∈ ord, q < F.length) ∧ ord.length ≤ F.length ∧ v = .agg ⟨[.int .i64 ((k : Nat) : Int), .int .i64 0, vF', vN']⟩ ∧
      New s s' [Item.lst 1 vF' (enB (ord.map (faOf st F R).f)), Item.rows vN' vs' (ord.map (rowF (faOf st F R).d k ord)) G]) := by
  have H := Hs.start s
  have hst := hA.st
  have hRl := hA.len
  have hok := hA.ok
  refine Wf.of p_machine_trim rfl ?_
  unfold c_machine_trim
  refine Wc.seq ?_; refine Wc.reg ?_; refine Wo.boxH H (by conv => lhs; whnf) ?_; intro sB1 H nB1; refine Wo.allocH H ?_; intro sB2 H nB2; refine Wo.nil ?_; refine Wc.seq ?_; refine Wc.reg ?_; refine Wo.op (Step.faddr rfl) ?_; refine Wo.op (Step.load rfl (H.row 0 rfl) (by rfl)) ?_; refine Wo.op (Step.lenRows rfl ((hN.at H hPN))) ?_; refine Wo.mkSliceH H rfl rfl (by omega) (by omega) (zeroI _) ?_; intro sM14 H nM14; refine Wo.op (Step.move (by conv => lhs; whnf)) ?_; refine Wo.nil ?_; refine Wc.seq ?_; refine Wc.seq ?_; refine Wc.reg ?_; refine Wo.op (Step.move (by conv => lhs; whnf)) ?_; refine Wo.op (Step.lenS rfl) ?_; refine Wo.op (Step.move (by conv => lhs; whnf)) ?_; refine Wo.nil ?_; refine Wc.mid (fun ρ' s' => (ρ' 1 = ptrV s.nextId 0) ∧ (ρ' 2 = ptrV sB1.nextId 0) ∧ (ρ' 3 = .slice (some ⟨sB2.nextId, 0, none⟩) R.length R.length) ∧ (Hs s.nextId s s' [Item.own s.nextId 0 [.int .i64 ((k : Nat) : Int), .int .i64 st, vF, vN], Item.own sB1.nextId 0 [.int .i64 (.ofNat 0), .int .i64 (.ofNat 0), .slice none 0 0, .slice none 0 0], Item.own sB2.nextId 1 (enI (atF R.length []))])) (Wc.block (Wc.loop (fun m ρ' s' => ∃ (i : Nat) (xs : List Int), (ρ' 1 = ptrV s.nextId 0) ∧ (ρ' 2 = ptrV sB1.nextId 0) ∧ (ρ' 3 = .slice (some ⟨sB2.nextId, 0, none⟩) R.length R.length) ∧ (ρ' 16 = .int .i64 ((R.length : Nat) : Int)) ∧ (ρ' 17 = .int .i64 ((i : Nat) : Int)) ∧ m = R.length - i ∧ (Hs s.nextId s s' [Item.own s.nextId 0 [.int .i64 ((k : Nat) : Int), .int .i64 st, vF, vN], Item.own sB1.nextId 0 [.int .i64 (.ofNat 0), .int .i64 (.ofNat 0), .slice none 0 0, .slice none 0 0], Item.own sB2.nextId 1 (enI xs)]) ∧ (xs.length = R.length ∧ i ≤ R.length) ∧ (∀ j, j < i → geti xs (j : Nat) = -1)) ?_ ?_)) ?_
  · exact ⟨_, 0, _, rfl, rfl, rfl, rfl, rfl, rfl, H, ⟨by simp, by omega⟩, by intro j hj; omega⟩
  · intro m0 ρ0 s0 hI
    obtain ⟨i, xs, e1, e2, e3, e16, e17, hm0, H, hx, hz⟩ := hI
    refine Wc.fix (k := 1) e1 ?_; refine Wc.fix (k := 2) e2 ?_; refine Wc.fix (k := 3) e3 ?_; refine Wc.fix (k := 16) e16 ?_; refine Wc.fix (k := 17) e17 ?_; refine Wc.seq ?_; refine Wc.reg ?_; refine Wo.op (Step.lss rfl rfl) ?_; refine Wo.nil ?_; refine Wc.seq ?_; refine Wc.ite rfl (fun hc18 => ?_) (fun hc18 => ?_)
    · refine Wc.skip ?_; refine Wc.seq ?_; refine Wc.block ?_; refine Wc.seq ?_; refine Wc.reg ?_; refine Wo.op (Step.move (by conv => lhs; whnf)) ?_; refine Wo.op (Step.move (by conv => lhs; whnf)) ?_; refine Wo.nil ?_; refine Wc.reg ?_; refine Wo.op (Step.move (by conv => lhs; whnf)) ?_; refine Wo.op (Step.move (by conv => lhs; whnf)) ?_; refine Wo.setI H 2 (n := (-1)) rfl rfl (by rfl) (by omega) (by omega) (by omega) rfl ?_ (by simp); intro p22 sT22 H nT22; refine Wo.nil ?_; refine Wc.reg ?_; refine Wo.op (Step.add (b := 1) rfl rfl (by omega)) ?_; refine Wo.op (Step.move (by conv => lhs; whnf)) ?_; refine Wo.nil ?_; refine ⟨_, ?_, i + 1, _, rfl, rfl, rfl, rfl, rfl, rfl, H, ⟨by simp; omega, by omega⟩, set_step (by omega) hz⟩
      omega
    · refine Wc.exit ?_; refine .inl ⟨rfl, ?_⟩
      exact ⟨rfl, rfl, rfl, by rw [atF_nil (n := R.length) (xs := xs) hx.1 (fun j hj => hz j (by omega))] at H; exact H⟩
  · intro ρx0 sx0 hP
    obtain ⟨e1, e2, e3, H⟩ := hP
    show Wc _ _ _ _ _ _ _
    refine Wc.fix (k := 1) e1 ?_; refine Wc.fix (k := 2) e2 ?_; refine Wc.fix (k := 3) e3 ?_; refine Wc.seq ?_; refine Wc.reg ?_; refine Wo.op (Step.move (by conv => lhs; whnf)) ?_; refine Wo.op (Step.faddr rfl) ?_; refine Wo.op (Step.load rfl (H.row 0 rfl) (by rfl)) ?_; refine Wo.setI H 2 (n := 0) rfl rfl (by rfl) (by omega) (by omega) (by first | omega | (simp; omega) | (simp [rowF, rowP, atF, ordI, preI]; omega) | (simp [rowF, rowP, atF, ordI, preI]; done)) rfl ?_ (by simp); intro p27 sT27 H nT27; refine Wo.nil ?_; refine Wc.seq ?_; refine Wc.reg ?_; refine Wo.op (Step.faddr rfl) ?_; refine Wo.op (Step.load rfl (H.row 0 rfl) (by rfl)) ?_; refine Wo.buildSH H (Fill.cons (by conv => lhs; whnf) (by rfl) (by rfl) (by rfl) (Fill.nil _)) ?_; intro sM30 H nM30
    have H := H.tolst 3 rfl rfl (by simp)
    refine Wo.op (Step.move (by conv => lhs; whnf)) ?_; refine Wo.nil ?_; refine Wc.seq ?_; refine Wc.reg ?_; refine Wo.op (Step.faddr rfl) ?_; refine Wo.op (Step.load rfl (H.row 0 rfl) (by rfl)) ?_; refine Wo.op (Step.buildF (Fill.cons (by conv => lhs; whnf) (by rfl) (by rfl) (by rfl) (Fill.nil _))) ?_; refine Wo.allocH H ?_; intro sB6 H nB6; refine Wo.storeH H 4 rfl rfl (by conv => lhs; whnf) (by rfl) (ones_cons (by rfl) (ones_cons (by rfl) (ones_cons (by rfl) (ones_cons (by rfl) (rfl))))) (by rfl) ?_; intro sS0 H nS0
    have H := H.addNil 1
    have H := H.addRows
    rw [show (atF R.length []).set st.toNat 0 = atF R.length [st.toNat] from atF_push (ord := []) (by omega) (by simp)] at H
    rw [show ([.int .i64 st] : List Value) = enI (ordI [st.toNat]) by simp [enI, ordI, Int.toNat_of_nonneg hst.1]] at H
    refine Wo.nil ?_; refine Wc.seq ?_; refine Wc.seq ?_; refine Wc.reg ?_; refine Wo.op (Step.move (by conv => lhs; whnf)) ?_; refine Wo.nil ?_; refine Wc.mid (fun ρ' s' => ∃ (ord : List Nat) (vF' : Value) (vN' : Value) (vs' : List Value) (G : List Nat), (ρ' 1 = ptrV s.nextId 0) ∧ (ρ' 2 = ptrV sB1.nextId 0) ∧ (ρ' 6 = ptrV sM30.nextId 0) ∧ (∃ vQ, Hs s.nextId s s' [Item.own s.nextId 0 [.int .i64 ((k : Nat) : Int), .int .i64 st, vF, vN], Item.own sB1.nextId 0 [.int .i64 (.ofNat 0), .int .i64 (.ofNat 0), .slice none 0 0, .slice none 0 0], Item.own sB2.nextId 1 (enI (atF R.length ord)), Item.lst 1 vQ (enI (ordI ord)), Item.own sM30.nextId 0 [.int .i64 ((k : Nat) : Int), .int .i64 (.ofNat 0), vF', vN'], Item.lst 1 vF' (enB (ord.map (faOf st F R).f)), Item.rows vN' vs' (ord.map (rowF (faOf st F R).d k ord)) G]) ∧ (Bfs (faOf st F R).d k st.toNat ord) ∧ (∀ q, q ∈ ord → q < F.length) ∧ (ord.length ≤ F.length)) (Wc.block (Wc.loop (fun m ρ' s' => ∃ (i : Nat) (ord : List Nat) (vQ : Value) (vF' : Value) (vN' : Value) (vs' : List Value) (G : List Nat), (ρ' 1 = ptrV s.nextId 0) ∧ (ρ' 2 = ptrV sB1.nextId 0) ∧ (ρ' 3 = .slice (some ⟨sB2.nextId, 0, none⟩) R.length R.length) ∧ (ρ' 5 = vQ) ∧ (ρ' 6 = ptrV sM30.nextId 0) ∧ (ρ' 7 = .int .i64 ((i : Nat) : Int)) ∧ m = F.length - i ∧ (Hs s.nextId s s' [Item.own s.nextId 0 [.int .i64 ((k : Nat) : Int), .int .i64 st, vF, vN], Item.own sB1.nextId 0 [.int .i64 (.ofNat 0), .int .i64 (.ofNat 0), .slice none 0 0, .slice none 0 0], Item.own sB2.nextId 1 (enI (atF R.length ord)), Item.lst 1 vQ (enI (ordI ord)), Item.own sM30.nextId 0 [.int .i64 ((k : Nat) : Int), .int .i64 (.ofNat 0), vF', vN'], Item.lst 1 vF' (enB ((ord.take i).map (faOf st F R).f)), Item.rows vN' vs' ((ord.take i).map (rowF (faOf st F R).d k ord)) G]) ∧ (i ≤ ord.length) ∧ (∀ F', bfsGo (faOf st F R).d k (i + F') 0 [st.toNat] = bfsGo (faOf st F R).d k F' i ord) ∧ (ord.Nodup) ∧ (∀ q, q ∈ ord → q < F.length) ∧ (∀ p, p ∈ ord.take i → ∀ a, a < k → (faOf st F R).d p a ∈ ord)) ?_ ?_)) ?_
    · exact ⟨_, 0, [st.toNat], _, .slice none 0 0, .slice none 0 0, [], [], rfl, rfl, rfl, rfl, rfl, rfl, rfl, H, by omega, by intro F'; simp, by simp, by intro q hq; simp at hq; omega, by intro p hp; simp at hp⟩
    · intro m2 ρ2 s2 hI
      obtain ⟨i, ord, vQ, vF', vN', vs', G, e1, e2, e3, e5, e6, e7, hm2, H, hi, hb, hnd, hlt, hcl⟩ := hI
      refine Wc.fix (k := 1) e1 ?_; refine Wc.fix (k := 2) e2 ?_; refine Wc.fix (k := 3) e3 ?_; refine Wc.fix (k := 5) e5 ?_; refine Wc.fix (k := 6) e6 ?_; refine Wc.fix (k := 7) e7 ?_
      have hle := nodup_len hnd hlt
      have hol := ordI_length ord
      refine Wc.seq ?_; refine Wc.seq ?_; refine Wc.reg ?_; refine Wo.op (Step.move (by conv => lhs; whnf)) ?_; refine Wo.op (Step.move (by conv => lhs; whnf)) ?_; refine Wo.op (Step.lenSl rfl (H.ints 3 rfl)) ?_; refine Wo.op (Step.lss rfl rfl) ?_; refine Wo.nil ?_; refine Wc.ite rfl (fun hc37 => ?_) (fun hc37 => ?_)
      · refine Wc.skip ?_; refine Wc.seq ?_; refine Wc.block ?_; refine Wc.seq ?_; refine Wc.reg ?_; refine Wo.op (Step.faddr rfl) ?_; refine Wo.op (Step.load rfl (H.row 0 rfl) (by rfl)) ?_; refine Wo.mkSliceH H rfl rfl (by omega) (by omega) (zeroI _) ?_; intro sM42 H nM42; refine Wo.op (Step.move (by conv => lhs; whnf)) ?_; refine Wo.nil ?_; refine Wc.seq ?_; refine Wc.seq ?_; refine Wc.draw ?_; refine Wd.pure rfl (Step.faddr rfl) ?_; refine Wd.read rfl (Step.load rfl (H.row 0 rfl) (by rfl)) ?_; refine Wd.pure rfl (Step.move (by conv => lhs; whnf)) ?_; refine Wd.pure rfl (Step.move (by conv => lhs; whnf)) ?_; refine Wd.idxI rfl (H.ints 3 rfl) rfl (by omega) (by omega) ?_; intro p47
        obtain ⟨p, hp⟩ : ∃ p, p = ord.getD i 0 := ⟨_, rfl⟩
        have hi' : i < ord.length := by omega
        have hgo : geti (ordI ord) ((i : Nat) : Int) = ((p : Nat) : Int) := by rw [ordI_get hi', hp]
        have hpm : p ∈ ord := by rw [hp]; simp [hi']
        have hpl := hlt p hpm
        have hpg : ord[i]? = some p := by rw [hp, List.getD_eq_getElem?_getD, List.getElem?_eq_getElem hi']; rfl
        rw [hgo]
        have hrow := (getr_mem (R := R) (q := ((p : Nat) : Int)) (by omega) (by omega))
        have hrl := (hA.row _ hrow).1
        refine Wd.idxR0 H rfl (hN) hPN rfl (by omega) (by omega) ?_; intro p49 u50 hu50; refine Wd.pure rfl (Step.lenSl rfl (hu50.at H hPN)) ?_; refine Wd.pure rfl (Step.move (by conv => lhs; whnf)) ?_; refine Wd.nil ?_; refine Wc.mid (fun ρ' s' => ∃ (vQ : Value), (ρ' 1 = ptrV s.nextId 0) ∧ (ρ' 2 = ptrV sB1.nextId 0) ∧ (ρ' 3 = .slice (some ⟨sB2.nextId, 0, none⟩) R.length R.length) ∧ (ρ' 5 = vQ) ∧ (ρ' 6 = ptrV sM30.nextId 0) ∧ (ρ' 7 = .int .i64 ((i : Nat) : Int)) ∧ (ρ' 8 = .slice (some ⟨s2.nextId, 0, none⟩) k k) ∧ (Hs s.nextId s s' [Item.own s.nextId 0 [.int .i64 ((k : Nat) : Int), .int .i64 st, vF, vN], Item.own sB1.nextId 0 [.int .i64 (.ofNat 0), .int .i64 (.ofNat 0), .slice none 0 0, .slice none 0 0], Item.own sB2.nextId 1 (enI (atF R.length (scan (faOf st F R).d p k ord))), Item.lst 1 vQ (enI (ordI (scan (faOf st F R).d p k ord))), Item.own sM30.nextId 0 [.int .i64 ((k : Nat) : Int), .int .i64 (.ofNat 0), vF', vN'], Item.lst 1 vF' (enB ((ord.take i).map (faOf st F R).f)), Item.rows vN' vs' ((ord.take i).map (rowF (faOf st F R).d k ord)) G, Item.own s2.nextId 1 (enI (rowF (faOf st F R).d k (scan (faOf st F R).d p k ord) p))])) (Wc.block (Wc.loop (fun m ρ' s' => ∃ (a : Nat) (vQ : Value), (ρ' 1 = ptrV s.nextId 0) ∧ (ρ' 2 = ptrV sB1.nextId 0) ∧ (ρ' 3 = .slice (some ⟨sB2.nextId, 0, none⟩) R.length R.length) ∧ (ρ' 5 = vQ) ∧ (ρ' 6 = ptrV sM30.nextId 0) ∧ (ρ' 7 = .int .i64 ((i : Nat) : Int)) ∧ (ρ' 8 = .slice (some ⟨s2.nextId, 0, none⟩) k k) ∧ (ρ' 50 = u50) ∧ (ρ' 51 = .int .i64 ((k : Nat) : Int)) ∧ (ρ' 52 = .int .i64 ((a : Nat) : Int)) ∧ m = k - a ∧ (Hs s.nextId s s' [Item.own s.nextId 0 [.int .i64 ((k : Nat) : Int), .int .i64 st, vF, vN], Item.own sB1.nextId 0 [.int .i64 (.ofNat 0), .int .i64 (.ofNat 0), .slice none 0 0, .slice none 0 0], Item.own sB2.nextId 1 (enI (atF R.length (scan (faOf st F R).d p a ord))), Item.lst 1 vQ (enI (ordI (scan (faOf st F R).d p a ord))), Item.own sM30.nextId 0 [.int .i64 ((k : Nat) : Int), .int .i64 (.ofNat 0), vF', vN'], Item.lst 1 vF' (enB ((ord.take i).map (faOf st F R).f)), Item.rows vN' vs' ((ord.take i).map (rowF (faOf st F R).d k ord)) G, Item.own s2.nextId 1 (enI (rowP (faOf st F R).d k (scan (faOf st F R).d p a ord) p a))]) ∧ (a ≤ k)) ?_ ?_)) ?_
        · exact ⟨_, 0, _, rfl, rfl, rfl, rfl, rfl, rfl, rfl, rfl, congrArg (fun n : Nat => Value.int .i64 (n : Int)) hrl, rfl, rfl, by rw [rowP_zero]; exact H, by omega⟩
        · intro m4 ρ4 s4 hI
          obtain ⟨a, vQ, e1, e2, e3, e5, e6, e7, e8, e50, e51, e52, hm4, H, ha⟩ := hI
          refine Wc.fix (k := 1) e1 ?_; refine Wc.fix (k := 2) e2 ?_; refine Wc.fix (k := 3) e3 ?_; refine Wc.fix (k := 5) e5 ?_; refine Wc.fix (k := 6) e6 ?_; refine Wc.fix (k := 7) e7 ?_; refine Wc.fix (k := 8) e8 ?_; refine Wc.fix (k := 50) e50 ?_; refine Wc.fix (k := 51) e51 ?_; refine Wc.fix (k := 52) e52 ?_
          have hsl := nodup_len (scan_nodup (d := (faOf st F R).d) (p := p) (k := a) hnd) (n := F.length) (fun q hq => by
            rcases mem_scan.1 hq with hq | ⟨b, hb2, rfl⟩
            · exact hlt q hq
            · exact hok.2 p b hpl (by omega))
          have hol := ordI_length (scan (faOf st F R).d p a ord)
          refine Wc.seq ?_; refine Wc.reg ?_; refine Wo.op (Step.lss rfl rfl) ?_; refine Wo.nil ?_; refine Wc.seq ?_; refine Wc.ite rfl (fun hc53 => ?_) (fun hc53 => ?_)
          · refine Wc.skip ?_; refine Wc.seq ?_; refine Wc.block ?_; refine Wc.seq ?_; refine Wc.reg ?_; refine Wo.op (Step.move (by conv => lhs; whnf)) ?_; refine Wo.idxI rfl (hu50.at H hPN) rfl (by omega) (by omega) ?_; intro p55
            have hq := (hA.get (q := p) (a := a) hpl (by omega)).2
            rw [hq]
            have hql : (faOf st F R).d p a < R.length := by have := hok.2 p a hpl (by omega); rw [hRl]; exact this
            have hmb : ∀ b, b < a → (faOf st F R).d p b ∈ scan (faOf st F R).d p a ord := fun b hb2 => mem_scan.2 (.inr ⟨b, hb2, rfl⟩)
            refine Wo.op (Step.move (by conv => lhs; whnf)) ?_; refine Wo.op (Step.move (by conv => lhs; whnf)) ?_; refine Wo.nil ?_; refine Wc.seq ?_; refine Wc.seq ?_; refine Wc.reg ?_; refine Wo.op (Step.move (by conv => lhs; whnf)) ?_; refine Wo.op (Step.move (by conv => lhs; whnf)) ?_; refine Wo.idxI rfl (H.orow 2 (by rfl) (by first | rfl | omega | (simp; done) | (simp; omega) | (simp [rowF, rowP, atF, ordI, preI]; done) | (simp [rowF, rowP, atF, ordI, preI]; omega))) rfl (by first | omega | (simp [rowF, rowP, atF, ordI, preI]; omega)) (by first | omega | (simp [rowF, rowP, atF, ordI, preI]; omega)) ?_; intro p59
            rw [atF_get hql]
            refine Wo.op (Step.lss (b := 0) rfl rfl) ?_; refine Wo.nil ?_; refine Wc.ite rfl (fun hc61 => ?_) (fun hc61 => ?_)
            · have hm : (faOf st F R).d p a ∉ scan (faOf st F R).d p a ord := fun h => by rw [if_pos h] at hc61; omega
              refine Wc.seq ?_; refine Wc.reg ?_; refine Wo.op (Step.move (by conv => lhs; whnf)) ?_; refine Wo.op (Step.move (by conv => lhs; whnf)) ?_; refine Wo.op (Step.move (by conv => lhs; whnf)) ?_; refine Wo.op (Step.lenSl rfl (H.ints 3 rfl)) ?_; refine Wo.setI H 2 rfl rfl (by rfl) (by first | omega | (simp [rowF, rowP, atF, ordI, preI]; omega)) (by first | omega | (simp [rowF, rowP, atF, ordI, preI]; omega)) (by first | omega | (simp; omega) | (simp [rowF, rowP, atF, ordI, preI]; omega) | (simp [rowF, rowP, atF, ordI, preI]; done)) rfl ?_ (by simp); intro p66 sT66 H nT66; refine Wo.nil ?_; refine Wc.reg ?_; refine Wo.op (Step.move (by conv => lhs; whnf)) ?_; refine Wo.op (Step.move (by conv => lhs; whnf)) ?_; refine Wo.appI H 3 rfl (by rfl) rfl (by simp) (by omega) ?_; intro p69 v70 sA70 H nA70; refine Wo.op (Step.move (by conv => lhs; whnf)) ?_; refine Wo.nil ?_; refine Wc.reg ?_
              have hsc : scan (faOf st F R).d p (a + 1) ord = scan (faOf st F R).d p a ord ++ [(faOf st F R).d p a] := by simp only [scan, visit]; rw [if_neg hm]
              have hmm : (faOf st F R).d p a ∈ scan (faOf st F R).d p (a + 1) ord := mem_scan.2 (.inr ⟨a, by omega, rfl⟩)
              rw [Int.toNat_natCast, hol, atF_push hql hm, ← ordI_snoc, ← rowP_ord (t := [(faOf st F R).d p a]) hmb, ← hsc] at H
              refine Wo.op (Step.move (by conv => lhs; whnf)) ?_; refine Wo.op (Step.move (by conv => lhs; whnf)) ?_; refine Wo.op (Step.move (by conv => lhs; whnf)) ?_; refine Wo.op (Step.move (by conv => lhs; whnf)) ?_; refine Wo.idxI rfl (H.orow 2 (by rfl) (by first | rfl | omega | (simp; done) | (simp; omega) | (simp [rowF, rowP, atF, ordI, preI]; done) | (simp [rowF, rowP, atF, ordI, preI]; omega))) rfl (by first | omega | (simp [rowF, rowP, atF, ordI, preI]; omega)) (by first | omega | (simp [rowF, rowP, atF, ordI, preI]; omega)) ?_; intro p75; refine Wo.setI H 7 rfl rfl (by rfl) (by first | omega | (simp [rowF, rowP, atF, ordI, preI]; omega)) (by first | omega | (simp [rowF, rowP, atF, ordI, preI]; omega)) (by first | omega | (simp; omega) | (simp [rowF, rowP, atF, ordI, preI]; omega) | (simp [rowF, rowP, atF, ordI, preI]; done)) rfl ?_ (by simp); intro p77 sT77 H nT77; refine Wo.nil ?_; refine Wc.reg ?_; refine Wo.op (Step.add (b := 1) rfl rfl (by omega)) ?_; refine Wo.op (Step.move (by conv => lhs; whnf)) ?_; refine Wo.nil ?_; refine ⟨_, ?_, a + 1, _, rfl, rfl, rfl, rfl, rfl, rfl, rfl, rfl, rfl, rfl, rfl, by rw [atF_get hql, if_pos hmm, Int.toNat_natCast, rowP_set (by omega)] at H; exact H, by omega⟩
              omega
            · have hm : (faOf st F R).d p a ∈ scan (faOf st F R).d p a ord := Classical.byContradiction fun h => by rw [if_neg h] at hc61; omega
              refine Wc.skip ?_; refine Wc.reg ?_
              have hsc : scan (faOf st F R).d p (a + 1) ord = scan (faOf st F R).d p a ord := by simp only [scan, visit]; rw [if_pos hm]
              have hmm : (faOf st F R).d p a ∈ scan (faOf st F R).d p (a + 1) ord := mem_scan.2 (.inr ⟨a, by omega, rfl⟩)
              rw [← hsc] at H
              refine Wo.op (Step.move (by conv => lhs; whnf)) ?_; refine Wo.op (Step.move (by conv => lhs; whnf)) ?_; refine Wo.op (Step.move (by conv => lhs; whnf)) ?_; refine Wo.op (Step.move (by conv => lhs; whnf)) ?_; refine Wo.idxI rfl (H.orow 2 (by rfl) (by first | rfl | omega | (simp; done) | (simp; omega) | (simp [rowF, rowP, atF, ordI, preI]; done) | (simp [rowF, rowP, atF, ordI, preI]; omega))) rfl (by first | omega | (simp [rowF, rowP, atF, ordI, preI]; omega)) (by first | omega | (simp [rowF, rowP, atF, ordI, preI]; omega)) ?_; intro p75; refine Wo.setI H 7 rfl rfl (by rfl) (by first | omega | (simp [rowF, rowP, atF, ordI, preI]; omega)) (by first | omega | (simp [rowF, rowP, atF, ordI, preI]; omega)) (by first | omega | (simp; omega) | (simp [rowF, rowP, atF, ordI, preI]; omega) | (simp [rowF, rowP, atF, ordI, preI]; done)) rfl ?_ (by simp); intro p77 sT77 H nT77; refine Wo.nil ?_; refine Wc.reg ?_; refine Wo.op (Step.add (b := 1) rfl rfl (by omega)) ?_; refine Wo.op (Step.move (by conv => lhs; whnf)) ?_; refine Wo.nil ?_; refine ⟨_, ?_, a + 1, _, rfl, rfl, rfl, rfl, rfl, rfl, rfl, rfl, rfl, rfl, rfl, by rw [atF_get hql, if_pos hmm, Int.toNat_natCast, rowP_set (by omega)] at H; exact H, by omega⟩
              omega
          · refine Wc.exit ?_; refine .inl ⟨rfl, ?_⟩
            exact ⟨_, rfl, rfl, rfl, rfl, rfl, rfl, rfl, by have e : a = k := (by omega); subst e; rw [rowP_full] at H; exact H⟩
        · intro ρx4 sx4 hP
          obtain ⟨vQ, e1, e2, e3, e5, e6, e7, e8, H⟩ := hP
          show Wc _ _ _ _ _ _ _
          refine Wc.fix (k := 1) e1 ?_; refine Wc.fix (k := 2) e2 ?_; refine Wc.fix (k := 3) e3 ?_; refine Wc.fix (k := 5) e5 ?_; refine Wc.fix (k := 6) e6 ?_; refine Wc.fix (k := 7) e7 ?_; refine Wc.fix (k := 8) e8 ?_
          have hsl := nodup_len (scan_nodup (d := (faOf st F R).d) (p := p) (k := k) hnd) (n := F.length) (fun q hq => by
            rcases mem_scan.1 hq with hq | ⟨b, hb2, rfl⟩
            · exact hlt q hq
            · exact hok.2 p b hpl hb2)
          have hol := ordI_length (scan (faOf st F R).d p k ord)
          have hil : i < (scan (faOf st F R).d p k ord).length := by obtain ⟨t, ht⟩ := scan_prefix (faOf st F R).d p k ord; rw [ht, List.length_append]; omega
          have hg2 : geti (ordI (scan (faOf st F R).d p k ord)) ((i : Nat) : Int) = ((p : Nat) : Int) := by
            obtain ⟨t, ht⟩ := scan_prefix (faOf st F R).d p k ord
            rw [ordI_get hil, ht, hp]
            simp [List.getElem?_append_left hi']
          have hgb : getb F ((p : Nat) : Int) = (faOf st F R).f (ord.getD i 0) := by rw [getb_getD, hp]; rfl
          refine Wc.seq ?_; refine Wc.draw ?_; refine Wd.pure rfl (Step.faddr rfl) ?_; refine Wd.read rfl (Step.load rfl (H.row 4 rfl) (by rfl)) ?_; refine Wd.pure rfl (Step.faddr rfl) ?_; refine Wd.read rfl (Step.load rfl (H.row 0 rfl) (by rfl)) ?_; refine Wd.pure rfl (Step.move (by conv => lhs; whnf)) ?_; refine Wd.pure rfl (Step.move (by conv => lhs; whnf)) ?_; refine Wd.idxI rfl (H.ints 3 rfl) rfl (by omega) (by omega) ?_; intro p85
          rw [hg2]
          refine Wd.idxB rfl (hF.at H hPN) rfl (by omega) (by omega) ?_; intro p87; refine Wd.appB H 5 rfl (by rfl) rfl (by simp) (by omega) (by first | omega | (simp only [List.length_map, List.length_take]; omega) | (simp [rowF, rowP, atF, ordI, preI]; omega)) (fun s' hp => by have H := H.pur hp; exact ⟨fun _ => (hF.at H hPN), fun _ => (H.ints 3 rfl), fun _ => reread rfl (H.row 0 rfl) (by rfl) (Sl.veq (hF.at H hPN)), fun _ => reread rfl (H.row 4 rfl) (by rfl) (Sl.veq (H.bools 5 rfl)), trivial⟩) ?_; intro p89 v90 sA90 H nA90; refine ⟨⟨fun h => absurd h (by omega), fun h => absurd h (by omega), fun h => absurd h (by omega), fun h => absurd h (by omega), trivial⟩, ?_⟩; refine Wd.pure rfl (Step.faddr rfl) ?_; refine Wd.storeH H 4 rfl rfl (Sl.cellE (H.bools 5 rfl) rfl) (by rfl) (Sl.one (H.bools 5 rfl)) (by rfl) ?_; intro sS1 H nS1; refine ⟨⟨by omega, fun h => absurd h (by omega), fun h => absurd h (by omega), fun h => absurd h (by omega), fun h => absurd h (by omega), trivial⟩, ?_⟩; refine Wd.nil ?_; refine Wc.reg ?_; refine Wo.op (Step.faddr rfl) ?_; refine Wo.op (Step.load rfl (H.row 4 rfl) (by rfl)) ?_; refine Wo.op (Step.move (by conv => lhs; whnf)) ?_; refine Wo.appRowH H 6 7 (by decide) rfl (by rfl) (H.orow 7 (by rfl) (by first | rfl | omega | (simp; done) | (simp; omega) | (simp [rowF, rowP, atF, ordI, preI]; done) | (simp [rowF, rowP, atF, ordI, preI]; omega))) rfl (by rfl) (by rfl) (by simp) (by first | omega | (simp only [List.length_map, List.length_take]; omega) | (simp [rowF, rowP, atF, ordI, preI]; omega)) ?_; intro p95 v96 sA96 F96 H nA96; refine Wo.op (Step.faddr rfl) ?_; refine Wo.storeH H 4 rfl rfl (Sl.cellE (H.rsl 6 rfl) rfl) (by rfl) (Sl.one (H.rsl 6 rfl)) (by rfl) ?_; intro sS2 H nS2; refine Wo.nil ?_; refine Wc.reg ?_; refine Wo.op (Step.move (by conv => lhs; whnf)) ?_; refine Wo.op (Step.add (b := 1) rfl rfl (by omega)) ?_; refine Wo.op (Step.move (by conv => lhs; whnf)) ?_; refine Wo.nil ?_
          have hlt2 : ∀ q, q ∈ scan (faOf st F R).d p k ord → q < F.length := fun q hq => by
            rcases mem_scan.1 hq with hq | ⟨a, ha, rfl⟩
            · exact hlt q hq
            · exact hok.2 p a (hlt p hpm) ha
          obtain ⟨t, ht⟩ := scan_prefix (faOf st F R).d p k ord
          have hrw := step_rows (d := (faOf st F R).d) (k := k) hi' ht hcl
          rw [← hp] at hrw
          have hfw := step_fin (faOf st F R).f hi' ht
          refine ⟨_, ?_, i + 1, scan (faOf st F R).d p k ord, _, _, _, _, _, rfl, rfl, rfl, rfl, rfl, rfl, rfl, by rw [hgb, hfw, hrw] at H; exact H.take 7, by rw [ht, List.length_append]; omega, by intro F'; rw [show i + 1 + F' = i + (F' + 1) by omega, hb]; simp only [bfsGo, hpg], scan_nodup hnd, hlt2, by
            intro q hq a ha
            rw [take_snoc hi' ht, List.mem_append, List.mem_singleton] at hq
            rcases hq with hq | rfl
            · exact mem_scan.2 (.inl (hcl q hq a ha))
            · exact mem_scan.2 (.inr ⟨a, ha, by rw [hp]⟩)⟩
          omega
      · refine Wc.exit ?_; refine .inl ⟨rfl, ?_⟩
        exact ⟨ord, _, _, _, _, rfl, rfl, rfl, ⟨vQ, by rw [List.take_of_length_le (by omega)] at H; exact H⟩, ⟨i + 1, by rw [hb]; simp only [bfsGo]; rw [List.getElem?_eq_none (by omega)]⟩, hlt, hle⟩
    · intro ρx2 sx2 hP
      obtain ⟨ord, vF', vN', vs', G, e1, e2, e6, ⟨vQ, H⟩, hb, hlt, hle⟩ := hP
      show Wc _ _ _ _ _ _ _
      refine Wc.fix (k := 1) e1 ?_; refine Wc.fix (k := 2) e2 ?_; refine Wc.fix (k := 6) e6 ?_; refine Wc.seq ?_; refine Wc.reg ?_; refine Wo.op (Step.loadN rfl (H.row 4 rfl) (by rfl)) ?_; refine Wo.storeH H 1 rfl rfl (by conv => lhs; whnf) (by rfl) (ones_cons (by rfl) (ones_cons (by rfl) (ones_cons (Sl.one (H.bools 5 rfl)) (ones_cons (Sl.one (H.rsl 6 rfl)) (rfl))))) (by rfl) ?_; intro sS3 H nS3; refine Wo.nil ?_; refine Wc.ret ⟨_, Rs.cells rfl (Row.cells (H.row 1 rfl)) (by rfl) (Rs.nil), ?_⟩
      exact ⟨_, _, _, _, ord, hb, hlt, hle, rfl, H.new2 5 6 (by decide) rfl rfl⟩
theorem machine_trim_ok2 {s : St} {P : Nat → Prop} {k : Nat} {st : Int} {vF vN : Value} {F : List Bool} {R : List (List Int)} (hF : IsBools s P vF F) (hN : IsRows s P vN R) (hPN : ∀ A, P A → A < s.nextId) (hA : AutOk k st F R) (hn : F.length ≤ 1000000) (hk : k ≤ 26) :
    Wf kprog n_machine_trim [.agg ⟨[.int .i64 ((k : Nat) : Int), .int .i64 st, vF, vN]⟩] s (fun v s' => ∃ vF' vN' vs' G t, (faOf st F R).Tab k t ∧ AutOk k 0 t.1 (encT t.2) ∧ Same k (faOf 0 t.1 (encT t.2)) 0 (faOf st F R) (faOf st F R).s ∧ t.1.length ≤ F.length ∧ v = .agg ⟨[.int .i64 ((k : Nat) : Int), .int .i64 0, vF', vN']⟩ ∧
      New s s' [Item.lst 1 vF' (enB t.1), Item.rows vN' vs' (encT t.2) G]) := by
  refine (machine_trim_ok hF hN hPN hA hn hk).mono ?_
  rintro v s' ⟨vF', vN', vs', G, ord, hb, hlt, hle, rfl, hnew⟩
  have ho := tab_ok hA hb
  refine ⟨vF', vN', vs', G, _, ⟨ord, hb, rfl⟩, ?_, ?_, ?_, rfl, ?_⟩
  · rw [tab_rows]; exact ho.1
  · rw [tab_rows]; exact ho.2
  · simpa [tab] using hle
  · rw [tab_rows]; exact hnew
end Go.EvK
end

section
set_option linter.unusedVariables false
set_option maxRecDepth 100000
set_option maxHeartbeats 4000000
namespace Go.EvK
open Go Go.Ev Go.EvW Go.Co Go.Aut
theorem machine_Minimal_ok {s : St} {P : Nat → Prop} {k : Nat} {st : Int} {vF vN : Value} {F : List Bool} {R : List (List Int)} (hF : IsBools s P vF F) (hN : IsRows s P vN R) (hPN : ∀ A, P A → A < s.nextId) (hA : AutOk k st F R) (hn : F.length ≤ 1000000) (hk : k ≤ 26) :
    Wf kprog n_machine_Minimal [.agg ⟨[.int .i64 ((k : Nat) : Int), .int .i64 st, vF, vN]⟩] s (fun v s' => ∃ vF' vN' vs' G t, Minimal k (faOf st F R) t ∧ AutOk k 0 t.1 (encT t.2) ∧ t.1.length ≤ F.length ∧ v = .agg ⟨[.int .i64 ((k : Nat) : Int), .int .i64 0, vF', vN']⟩ ∧
      New s s' [Item.lst 1 vF' (enB t.1), Item.rows vN' vs' (encT t.2) G]) := by
  have H := Hs.start s
  have hst0 := hA.st
  refine Wf.of p_machine_Minimal rfl ?_
  unfold c_machine_Minimal
  refine Wc.seq ?_; refine Wc.reg ?_; refine Wo.boxH H (by conv => lhs; whnf) ?_; intro sB1 H nB1; refine Wo.allocH H ?_; intro sB2 H nB2; refine Wo.nil ?_; refine Wc.seq ?_; refine Wc.reg ?_; refine Wo.op (Step.loadN rfl (H.row 0 rfl) (by rfl)) ?_
  -- call machine_trim
  refine Wo.call (Wf.mono (machine_trim_ok2 (hF.at H hPN) (hN.at H hPN) (fun A hA => by have := hPN A hA; omega) hA hn hk) ?_)
  rintro _ s3 ⟨vF', vN', vs', G, t, htab, hA2, hS, hle, rfl, hnew⟩
  have H := H.adds hnew
  generalize t.1 = F2 at *
  generalize encT t.2 = R2 at *
  have hst := hA2.st
  have hRl := hA2.len
  have hok := hA2.ok
  have hss : (faOf 0 F2 R2).s = 0 := rfl
  refine Wo.storeH H 0 rfl rfl (by conv => lhs; whnf) (by rfl) (ones_cons (by rfl) (ones_cons (by rfl) (ones_cons (Sl.one (H.bools 2 rfl)) (ones_cons (Sl.one (H.rsl 3 rfl)) (rfl))))) (by rfl) ?_; intro sS0 H nS0; refine Wo.nil ?_; refine Wc.seq ?_; refine Wc.reg ?_; refine Wo.op (Step.faddr rfl) ?_; refine Wo.op (Step.load rfl (H.row 0 rfl) (by rfl)) ?_; refine Wo.op (Step.lenSl rfl (H.rsl 3 rfl)) ?_; refine Wo.mkSliceH H rfl rfl (by omega) (by omega) (zeroI _) ?_; intro sM26 H nM26; refine Wo.op (Step.move (by conv => lhs; whnf)) ?_; refine Wo.nil ?_; refine Wc.seq ?_; refine Wc.seq ?_; refine Wc.reg ?_; refine Wo.op (Step.faddr rfl) ?_; refine Wo.op (Step.load rfl (H.row 0 rfl) (by rfl)) ?_; refine Wo.op (Step.lenSl rfl (H.bools 2 rfl)) ?_; refine Wo.op (Step.move (by conv => lhs; whnf)) ?_; refine Wo.nil ?_; refine Wc.mid (fun ρ' s' => (ρ' 1 = ptrV s.nextId 0) ∧ (ρ' 2 = ptrV sB1.nextId 0) ∧ (ρ' 3 = .slice (some ⟨sS0.nextId, 0, none⟩) R2.length R2.length) ∧ (Hs s.nextId s s' [Item.own s.nextId 0 [.int .i64 ((k : Nat) : Int), .int .i64 0, vF', vN'], Item.own sB1.nextId 0 [.int .i64 (.ofNat 0), .int .i64 (.ofNat 0), .slice none 0 0, .slice none 0 0], Item.lst 1 vF' (enB F2), Item.rows vN' vs' R2 G, Item.own sS0.nextId 1 (enI (ordI (finC F2)))])) (Wc.block (Wc.loop (fun m ρ' s' => ∃ (i : Nat), (ρ' 1 = ptrV s.nextId 0) ∧ (ρ' 2 = ptrV sB1.nextId 0) ∧ (ρ' 3 = .slice (some ⟨sS0.nextId, 0, none⟩) R2.length R2.length) ∧ (ρ' 28 = vF') ∧ (ρ' 29 = .int .i64 ((F2.length : Nat) : Int)) ∧ (ρ' 30 = .int .i64 ((i : Nat) : Int)) ∧ m = F2.length - i ∧ (Hs s.nextId s s' [Item.own s.nextId 0 [.int .i64 ((k : Nat) : Int), .int .i64 0, vF', vN'], Item.own sB1.nextId 0 [.int .i64 (.ofNat 0), .int .i64 (.ofNat 0), .slice none 0 0, .slice none 0 0], Item.lst 1 vF' (enB F2), Item.rows vN' vs' R2 G, Item.own sS0.nextId 1 (enI (preI (finC F2) R2.length i))]) ∧ (i ≤ F2.length)) ?_ ?_)) ?_
  · exact ⟨_, 0, rfl, rfl, rfl, rfl, rfl, rfl, rfl, by rw [preI_zero]; exact H, by omega⟩
  · intro m0 ρ0 s0 hI
    obtain ⟨i, e1, e2, e3, e28, e29, e30, hm0, H, hi⟩ := hI
    refine Wc.fix (k := 1) e1 ?_; refine Wc.fix (k := 2) e2 ?_; refine Wc.fix (k := 3) e3 ?_; refine Wc.fix (k := 28) e28 ?_; refine Wc.fix (k := 29) e29 ?_; refine Wc.fix (k := 30) e30 ?_; refine Wc.seq ?_; refine Wc.reg ?_; refine Wo.op (Step.lss rfl rfl) ?_; refine Wo.nil ?_; refine Wc.seq ?_; refine Wc.ite rfl (fun hc31 => ?_) (fun hc31 => ?_)
    · refine Wc.skip ?_; refine Wc.seq ?_; refine Wc.block ?_; refine Wc.seq ?_; refine Wc.reg ?_; refine Wo.op (Step.move (by conv => lhs; whnf)) ?_; refine Wo.idxB rfl (H.bools 2 rfl) rfl (by omega) (by omega) ?_; intro p33; refine Wo.op (Step.move (by conv => lhs; whnf)) ?_; refine Wo.op (Step.move (by conv => lhs; whnf)) ?_; refine Wo.nil ?_; refine Wc.seq ?_; refine Wc.reg ?_; refine Wo.op (Step.move (by conv => lhs; whnf)) ?_; refine Wo.op (Step.faddr rfl) ?_; refine Wo.op (Step.load rfl (H.row 0 rfl) (by rfl)) ?_; refine Wo.idxB (i := 0) rfl (H.bools 2 rfl) rfl (by omega) (by omega) ?_; intro p38; refine Wo.op (Step.neB rfl rfl) ?_; refine Wo.nil ?_; refine Wc.ite rfl (fun hc40 => ?_) (fun hc40 => ?_)
      · refine Wc.reg ?_; refine Wo.op (Step.move (by conv => lhs; whnf)) ?_; refine Wo.op (Step.move (by conv => lhs; whnf)) ?_; refine Wo.setI H 4 (n := 1) rfl rfl (by rfl) (by first | omega | (simp [rowF, rowP, atF, ordI, preI]; omega)) (by first | omega | (simp [rowF, rowP, atF, ordI, preI]; omega)) (by first | omega | (simp; omega) | (simp [rowF, rowP, atF, ordI, preI]; omega) | (simp [rowF, rowP, atF, ordI, preI]; done)) rfl ?_ (by simp); intro p43 sT43 H nT43; refine Wo.nil ?_; refine Wc.reg ?_; refine Wo.op (Step.add (b := 1) rfl rfl (by omega)) ?_; refine Wo.op (Step.move (by conv => lhs; whnf)) ?_; refine Wo.nil ?_; refine ⟨_, ?_, i + 1, rfl, rfl, rfl, rfl, rfl, rfl, rfl, by rw [show ((i : Nat) : Int).toNat = i from rfl, show (1 : Int) = (((finC F2).getD i 0 : Nat) : Int) by rw [finC_get (by omega), if_pos (by simpa [getb_getD, getb] using hc40)]; rfl, preI_set (by omega)] at H; exact H, by omega⟩
        omega
      · refine Wc.skip ?_; refine Wc.reg ?_; refine Wo.op (Step.add (b := 1) rfl rfl (by omega)) ?_; refine Wo.op (Step.move (by conv => lhs; whnf)) ?_; refine Wo.nil ?_; refine ⟨_, ?_, i + 1, rfl, rfl, rfl, rfl, rfl, rfl, rfl, by rw [preI_skip (by rw [finC_get (by omega), if_neg (by simpa [getb_getD, getb] using hc40)])]; exact H, by omega⟩
        omega
    · refine Wc.exit ?_; refine .inl ⟨rfl, ?_⟩
      exact ⟨rfl, rfl, rfl, by rw [show i = R2.length by omega, preI_full (by simp [finC]; omega)] at H; exact H⟩
  · intro ρx0 sx0 hP
    obtain ⟨e1, e2, e3, H⟩ := hP
    show Wc _ _ _ _ _ _ _
    refine Wc.fix (k := 1) e1 ?_; refine Wc.fix (k := 2) e2 ?_; refine Wc.fix (k := 3) e3 ?_; refine Wc.seq ?_; refine Wc.seq ?_; refine Wc.reg ?_; refine Wo.op (Step.move (by conv => lhs; whnf)) ?_; refine Wo.nil ?_; refine Wc.mid (fun ρ' s' => ∃ (cl : List Nat) (A3 : Nat), (ρ' 1 = ptrV s.nextId 0) ∧ (ρ' 2 = ptrV sB1.nextId 0) ∧ (ρ' 3 = .slice (some ⟨A3, 0, none⟩) R2.length R2.length) ∧ (Hs s.nextId s s' [Item.own s.nextId 0 [.int .i64 ((k : Nat) : Int), .int .i64 0, vF', vN'], Item.own sB1.nextId 0 [.int .i64 (.ofNat 0), .int .i64 (.ofNat 0), .slice none 0 0, .slice none 0 0], Item.lst 1 vF' (enB F2), Item.rows vN' vs' R2 G, Item.own A3 1 (enI (ordI cl))]) ∧ (Nerode k (faOf 0 F2 R2) cl)) (Wc.block (Wc.loop (fun m ρ' s' => ∃ (cl : List Nat) (A3 : Nat) (cnt : Nat), (ρ' 1 = ptrV s.nextId 0) ∧ (ρ' 2 = ptrV sB1.nextId 0) ∧ (ρ' 3 = .slice (some ⟨A3, 0, none⟩) R2.length R2.length) ∧ (ρ' 6 = .int .i64 ((cnt : Nat) : Int)) ∧ m = R2.length + 1 - cnt ∧ (Hs s.nextId s s' [Item.own s.nextId 0 [.int .i64 ((k : Nat) : Int), .int .i64 0, vF', vN'], Item.own sB1.nextId 0 [.int .i64 (.ofNat 0), .int .i64 (.ofNat 0), .slice none 0 0, .slice none 0 0], Item.lst 1 vF' (enB F2), Item.rows vN' vs' R2 G, Item.own A3 1 (enI (ordI cl))]) ∧ (cl.length = R2.length) ∧ (Coarse k (faOf 0 F2 R2) cl) ∧ (First cl) ∧ (cnt = 0 ∨ cnt = (reps cl R2.length).length)) ?_ ?_)) ?_
    · exact ⟨_, finC F2, _, 0, rfl, rfl, rfl, rfl, rfl, H, by simp [finC]; omega, finC_coarse, finC_first F2, .inl rfl⟩
    · intro m2 ρ2 s2 hI
      obtain ⟨cl, A3, cnt, e1, e2, e3, e6, hm2, H, hcl, hco, hfi, hcn⟩ := hI
      refine Wc.fix (k := 1) e1 ?_; refine Wc.fix (k := 2) e2 ?_; refine Wc.fix (k := 3) e3 ?_; refine Wc.fix (k := 6) e6 ?_
      have hMn : (faOf 0 F2 R2).n = F2.length := rfl
      have hrl := reps_le cl R2.length
      have hsm : ∀ i, cl.getD i 0 < 16777216 := fun i => by
        by_cases h : i < R2.length
        · have := first_lt hcl hfi i h; omega
        · rw [List.getD_eq_getElem?_getD, List.getElem?_eq_none (by omega)]; decide
      have hstep := keys_step (k := k) (M := (faOf 0 F2 R2)) hsm
      have hkl := keysF_length k (faOf 0 F2 R2) cl
      have hreps := reps_number (keys := (keysF k (faOf 0 F2 R2) cl)) (dk := []) (i := R2.length) (by omega)
      have hn1 := first_lt (n := R2.length) (by rw [number_length]; omega) (number_first (keysF k (faOf 0 F2 R2) cl) []) 0 (by omega)
      refine Wc.block ?_; refine Wc.seq ?_; refine Wc.reg ?_; refine Wo.mkMapH H ?_; intro sM45 H nM45; refine Wo.op (Step.move (by conv => lhs; whnf)) ?_; refine Wo.nil ?_; refine Wc.seq ?_; refine Wc.reg ?_; refine Wo.op (Step.move (by conv => lhs; whnf)) ?_; refine Wo.op (Step.lenS rfl) ?_; refine Wo.mkSliceH H rfl rfl (by omega) (by omega) (zeroI _) ?_; intro sM48 H nM48; refine Wo.op (Step.move (by conv => lhs; whnf)) ?_; refine Wo.nil ?_; refine Wc.seq ?_; refine Wc.seq ?_; refine Wc.reg ?_; refine Wo.op (Step.move (by conv => lhs; whnf)) ?_; refine Wo.op (Step.lenS rfl) ?_; refine Wo.op (Step.move (by conv => lhs; whnf)) ?_; refine Wo.nil ?_; refine Wc.mid (fun ρ' s' => (ρ' 1 = ptrV s.nextId 0) ∧ (ρ' 2 = ptrV sB1.nextId 0) ∧ (ρ' 3 = .slice (some ⟨A3, 0, none⟩) R2.length R2.length) ∧ (ρ' 6 = .int .i64 ((cnt : Nat) : Int)) ∧ (ρ' 7 = .map (some s2.nextId)) ∧ (ρ' 8 = .slice (some ⟨sM45.nextId, 0, none⟩) R2.length R2.length) ∧ (Hs s.nextId s s' [Item.own s.nextId 0 [.int .i64 ((k : Nat) : Int), .int .i64 0, vF', vN'], Item.own sB1.nextId 0 [.int .i64 (.ofNat 0), .int .i64 (.ofNat 0), .slice none 0 0, .slice none 0 0], Item.lst 1 vF' (enB F2), Item.rows vN' vs' R2 G, Item.own A3 1 (enI (ordI cl)), Item.num s2.nextId (dist (keysF k (faOf 0 F2 R2) cl) [] R2.length), Item.own sM45.nextId 1 (enI (ordI (number (keysF k (faOf 0 F2 R2) cl) [])))])) (Wc.block (Wc.loop (fun m ρ' s' => ∃ (i : Nat), (ρ' 1 = ptrV s.nextId 0) ∧ (ρ' 2 = ptrV sB1.nextId 0) ∧ (ρ' 3 = .slice (some ⟨A3, 0, none⟩) R2.length R2.length) ∧ (ρ' 6 = .int .i64 ((cnt : Nat) : Int)) ∧ (ρ' 7 = .map (some s2.nextId)) ∧ (ρ' 8 = .slice (some ⟨sM45.nextId, 0, none⟩) R2.length R2.length) ∧ (ρ' 50 = .int .i64 ((R2.length : Nat) : Int)) ∧ (ρ' 51 = .int .i64 ((i : Nat) : Int)) ∧ m = R2.length - i ∧ (Hs s.nextId s s' [Item.own s.nextId 0 [.int .i64 ((k : Nat) : Int), .int .i64 0, vF', vN'], Item.own sB1.nextId 0 [.int .i64 (.ofNat 0), .int .i64 (.ofNat 0), .slice none 0 0, .slice none 0 0], Item.lst 1 vF' (enB F2), Item.rows vN' vs' R2 G, Item.own A3 1 (enI (ordI cl)), Item.num s2.nextId (dist (keysF k (faOf 0 F2 R2) cl) [] i), Item.own sM45.nextId 1 (enI (preI (number (keysF k (faOf 0 F2 R2) cl) []) R2.length i))]) ∧ (i ≤ R2.length)) ?_ ?_)) ?_
      · exact ⟨_, 0, rfl, rfl, rfl, rfl, rfl, rfl, rfl, rfl, rfl, by rw [preI_zero]; exact H, by omega⟩
      · intro m4 ρ4 s4 hI
        obtain ⟨i, e1, e2, e3, e6, e7, e8, e50, e51, hm4, H, hi⟩ := hI
        refine Wc.fix (k := 1) e1 ?_; refine Wc.fix (k := 2) e2 ?_; refine Wc.fix (k := 3) e3 ?_; refine Wc.fix (k := 6) e6 ?_; refine Wc.fix (k := 7) e7 ?_; refine Wc.fix (k := 8) e8 ?_; refine Wc.fix (k := 50) e50 ?_; refine Wc.fix (k := 51) e51 ?_; refine Wc.seq ?_; refine Wc.reg ?_; refine Wo.op (Step.lss rfl rfl) ?_; refine Wo.nil ?_; refine Wc.seq ?_; refine Wc.ite rfl (fun hc52 => ?_) (fun hc52 => ?_)
        · refine Wc.skip ?_; refine Wc.seq ?_; refine Wc.block ?_; refine Wc.seq ?_; refine Wc.reg ?_; refine Wo.op (Step.move (by conv => lhs; whnf)) ?_; refine Wo.op (Step.move (by conv => lhs; whnf)) ?_; refine Wo.nil ?_; refine Wc.seq ?_; refine Wc.reg ?_; refine Wo.op (Step.faddr rfl) ?_; refine Wo.op (Step.load rfl (H.row 0 rfl) (by rfl)) ?_; refine Wo.op (Step.mul (a := 3) rfl rfl (by omega)) ?_; refine Wo.op (Step.add (a := 3) rfl rfl (by omega)) ?_; refine Wo.mkRoomH (c := 3 + 3 * k) H rfl rfl (by omega) (by omega) ?_; intro sK H nK; refine Wo.op (Step.move (by conv => lhs; whnf)) ?_; refine Wo.nil ?_; refine Wc.seq ?_; refine Wc.draw ?_; refine Wd.pure rfl (Step.move (by conv => lhs; whnf)) ?_; refine Wd.pure rfl (Step.move (by conv => lhs; whnf)) ?_; refine Wd.pure rfl (Step.move (by conv => lhs; whnf)) ?_; refine Wd.idxI rfl (H.orow 4 (by rfl) (by first | rfl | omega | (simp; done) | (simp; omega) | (simp [rowF, rowP, atF, ordI, preI]; done) | (simp [rowF, rowP, atF, ordI, preI]; omega))) rfl (by first | omega | (simp [rowF, rowP, atF, ordI, preI]; omega)) (by first | omega | (simp [rowF, rowP, atF, ordI, preI]; omega)) ?_; intro p62
          rw [geti_ordI]
          refine Wd.pure rfl (Step.convTo rfl (conv0 _)) ?_; refine Wd.pure rfl (Step.move (by conv => lhs; whnf)) ?_; refine Wd.pure rfl (Step.move (by conv => lhs; whnf)) ?_; refine Wd.idxI rfl (H.orow 4 (by rfl) (by first | rfl | omega | (simp; done) | (simp; omega) | (simp [rowF, rowP, atF, ordI, preI]; done) | (simp [rowF, rowP, atF, ordI, preI]; omega))) rfl (by first | omega | (simp [rowF, rowP, atF, ordI, preI]; omega)) (by first | omega | (simp [rowF, rowP, atF, ordI, preI]; omega)) ?_; intro p67
          rw [geti_ordI]
          refine Wd.pure rfl (Step.shrC (b := 8) (m := 256) rfl rfl (by omega) (by decide) (by decide)) ?_; refine Wd.pure rfl (Step.convTo rfl (conv1 _)) ?_; refine Wd.pure rfl (Step.move (by conv => lhs; whnf)) ?_; refine Wd.pure rfl (Step.move (by conv => lhs; whnf)) ?_; refine Wd.idxI rfl (H.orow 4 (by rfl) (by first | rfl | omega | (simp; done) | (simp; omega) | (simp [rowF, rowP, atF, ordI, preI]; done) | (simp [rowF, rowP, atF, ordI, preI]; omega))) rfl (by first | omega | (simp [rowF, rowP, atF, ordI, preI]; omega)) (by first | omega | (simp [rowF, rowP, atF, ordI, preI]; omega)) ?_; intro p73
          rw [geti_ordI]
          refine Wd.pure rfl (Step.shrC (b := 16) (m := 65536) rfl rfl (by omega) (by decide) (by decide)) ?_; refine Wd.pure rfl (Step.convTo rfl (conv2 _)) ?_; refine Wd.appRoom (new := enc3 (cl.getD i 0)) (bs := []) (c := 3 + 3 * k) H 7 rfl (by rfl) rfl (Fill.cons (by conv => lhs; whnf) (by rfl) (by rfl) (by rfl) (Fill.cons (by conv => lhs; whnf) (by rfl) (by rfl) (by rfl) (Fill.cons (by conv => lhs; whnf) (by rfl) (by rfl) (by rfl) (Fill.nil _)))) rfl (by show 0 + 3 ≤ 3 + 3 * k; omega) (by simp [enc3]) (by simp) (by omega) (fun s' hp => by have H := H.pur hp; exact ⟨fun _ => (H.orow 4 (by rfl) (by first | rfl | omega | (simp; done) | (simp; omega) | (simp [rowF, rowP, atF, ordI, preI]; done) | (simp [rowF, rowP, atF, ordI, preI]; omega))), fun _ => (H.orow 4 (by rfl) (by first | rfl | omega | (simp; done) | (simp; omega) | (simp [rowF, rowP, atF, ordI, preI]; done) | (simp [rowF, rowP, atF, ordI, preI]; omega))), fun _ => (H.orow 4 (by rfl) (by first | rfl | omega | (simp; done) | (simp; omega) | (simp [rowF, rowP, atF, ordI, preI]; done) | (simp [rowF, rowP, atF, ordI, preI]; omega))), trivial⟩) ?_; intro p77 sK1 H; refine ⟨⟨fun h => absurd h (by omega), fun h => absurd h (by omega), fun h => absurd h (by omega), trivial⟩, ?_⟩; refine Wd.pure rfl (Step.move (by conv => lhs; whnf)) ?_; refine Wd.nil ?_; refine Wc.seq ?_; refine Wc.seq ?_; refine Wc.reg ?_; refine Wo.op (Step.faddr rfl) ?_; refine Wo.op (Step.load rfl (H.row 0 rfl) (by rfl)) ?_; refine Wo.op (Step.move (by conv => lhs; whnf)) ?_; refine Wo.idxRH H 3 rfl rfl rfl (by omega) (by omega) ?_; intro p82 u83 hu83; refine Wo.op (Step.lenSl rfl (hu83 H rfl)) ?_
          have hrw := (hA2.row _ (getr_mem (R := R2) (q := ((i : Nat) : Int)) (by omega) (by omega))).1
          refine Wo.op (Step.move (by conv => lhs; whnf)) ?_; refine Wo.nil ?_; refine Wc.mid (fun ρ' s' => (ρ' 1 = ptrV s.nextId 0) ∧ (ρ' 2 = ptrV sB1.nextId 0) ∧ (ρ' 3 = .slice (some ⟨A3, 0, none⟩) R2.length R2.length) ∧ (ρ' 6 = .int .i64 ((cnt : Nat) : Int)) ∧ (ρ' 7 = .map (some s2.nextId)) ∧ (ρ' 8 = .slice (some ⟨sM45.nextId, 0, none⟩) R2.length R2.length) ∧ (ρ' 9 = .int .i64 ((i : Nat) : Int)) ∧ (ρ' 10 = .slice (some ⟨s4.nextId, 0, none⟩) (encs (keyL k (faOf 0 F2 R2) cl i)).length (3 + 3 * k)) ∧ (ρ' 50 = .int .i64 ((R2.length : Nat) : Int)) ∧ (ρ' 51 = .int .i64 ((i : Nat) : Int)) ∧ (Hs s.nextId s s' [Item.own s.nextId 0 [.int .i64 ((k : Nat) : Int), .int .i64 0, vF', vN'], Item.own sB1.nextId 0 [.int .i64 (.ofNat 0), .int .i64 (.ofNat 0), .slice none 0 0, .slice none 0 0], Item.lst 1 vF' (enB F2), Item.rows vN' vs' R2 G, Item.own A3 1 (enI (ordI cl)), Item.num s2.nextId (dist (keysF k (faOf 0 F2 R2) cl) [] i), Item.own sM45.nextId 1 (enI (preI (number (keysF k (faOf 0 F2 R2) cl) []) R2.length i)), Item.own s4.nextId 1 (roomU (encs (keyL k (faOf 0 F2 R2) cl i)) (3 + 3 * k))])) (Wc.block (Wc.loop (fun m ρ' s' => ∃ (a : Nat), (ρ' 1 = ptrV s.nextId 0) ∧ (ρ' 2 = ptrV sB1.nextId 0) ∧ (ρ' 3 = .slice (some ⟨A3, 0, none⟩) R2.length R2.length) ∧ (ρ' 6 = .int .i64 ((cnt : Nat) : Int)) ∧ (ρ' 7 = .map (some s2.nextId)) ∧ (ρ' 8 = .slice (some ⟨sM45.nextId, 0, none⟩) R2.length R2.length) ∧ (ρ' 9 = .int .i64 ((i : Nat) : Int)) ∧ (ρ' 10 = .slice (some ⟨s4.nextId, 0, none⟩) (encs (cl.getD i 0 :: (List.range a).map fun b => cl.getD ((faOf 0 F2 R2).d i b) 0)).length (3 + 3 * k)) ∧ (ρ' 50 = .int .i64 ((R2.length : Nat) : Int)) ∧ (ρ' 51 = .int .i64 ((i : Nat) : Int)) ∧ (ρ' 83 = u83) ∧ (ρ' 84 = .int .i64 ((k : Nat) : Int)) ∧ (ρ' 85 = .int .i64 ((a : Nat) : Int)) ∧ m = k - a ∧ (Hs s.nextId s s' [Item.own s.nextId 0 [.int .i64 ((k : Nat) : Int), .int .i64 0, vF', vN'], Item.own sB1.nextId 0 [.int .i64 (.ofNat 0), .int .i64 (.ofNat 0), .slice none 0 0, .slice none 0 0], Item.lst 1 vF' (enB F2), Item.rows vN' vs' R2 G, Item.own A3 1 (enI (ordI cl)), Item.num s2.nextId (dist (keysF k (faOf 0 F2 R2) cl) [] i), Item.own sM45.nextId 1 (enI (preI (number (keysF k (faOf 0 F2 R2) cl) []) R2.length i)), Item.own s4.nextId 1 (roomU (encs (cl.getD i 0 :: (List.range a).map fun b => cl.getD ((faOf 0 F2 R2).d i b) 0)) (3 + 3 * k))]) ∧ (a ≤ k)) ?_ ?_)) ?_
          · exact ⟨_, 0, rfl, rfl, rfl, rfl, rfl, rfl, rfl, rfl, rfl, rfl, rfl, congrArg (fun n : Nat => Value.int .i64 (n : Int)) hrw, rfl, rfl, H, by omega⟩
          · intro m6 ρ6 s6 hI
            obtain ⟨a, e1, e2, e3, e6, e7, e8, e9, e10, e50, e51, e83, e84, e85, hm6, H, ha⟩ := hI
            refine Wc.fix (k := 1) e1 ?_; refine Wc.fix (k := 2) e2 ?_; refine Wc.fix (k := 3) e3 ?_; refine Wc.fix (k := 6) e6 ?_; refine Wc.fix (k := 7) e7 ?_; refine Wc.fix (k := 8) e8 ?_; refine Wc.fix (k := 9) e9 ?_; refine Wc.fix (k := 10) e10 ?_; refine Wc.fix (k := 50) e50 ?_; refine Wc.fix (k := 51) e51 ?_; refine Wc.fix (k := 83) e83 ?_; refine Wc.fix (k := 84) e84 ?_; refine Wc.fix (k := 85) e85 ?_; refine Wc.seq ?_; refine Wc.reg ?_; refine Wo.op (Step.lss rfl rfl) ?_; refine Wo.nil ?_; refine Wc.seq ?_; refine Wc.ite rfl (fun hc86 => ?_) (fun hc86 => ?_)
            · refine Wc.skip ?_; refine Wc.seq ?_; refine Wc.block ?_; refine Wc.seq ?_; refine Wc.reg ?_; refine Wo.idxI rfl (hu83 H rfl) rfl (by omega) (by omega) ?_; intro p87
              have hq := (hA2.get (q := i) (a := a) (by omega) (by omega)).2
              rw [hq]
              have hql : (faOf 0 F2 R2).d i a < R2.length := by have := hok.2 i a (by rw [hMn]; omega) (by omega); rw [hRl]; exact this
              refine Wo.op (Step.move (by conv => lhs; whnf)) ?_; refine Wo.nil ?_; refine Wc.draw ?_; refine Wd.pure rfl (Step.move (by conv => lhs; whnf)) ?_; refine Wd.pure rfl (Step.move (by conv => lhs; whnf)) ?_; refine Wd.pure rfl (Step.move (by conv => lhs; whnf)) ?_; refine Wd.idxI rfl (H.orow 4 (by rfl) (by first | rfl | omega | (simp; done) | (simp; omega) | (simp [rowF, rowP, atF, ordI, preI]; done) | (simp [rowF, rowP, atF, ordI, preI]; omega))) rfl (by first | omega | (simp [rowF, rowP, atF, ordI, preI]; omega)) (by first | omega | (simp [rowF, rowP, atF, ordI, preI]; omega)) ?_; intro p92
              rw [geti_ordI]
              refine Wd.pure rfl (Step.convTo rfl (conv0 _)) ?_; refine Wd.pure rfl (Step.move (by conv => lhs; whnf)) ?_; refine Wd.pure rfl (Step.move (by conv => lhs; whnf)) ?_; refine Wd.idxI rfl (H.orow 4 (by rfl) (by first | rfl | omega | (simp; done) | (simp; omega) | (simp [rowF, rowP, atF, ordI, preI]; done) | (simp [rowF, rowP, atF, ordI, preI]; omega))) rfl (by first | omega | (simp [rowF, rowP, atF, ordI, preI]; omega)) (by first | omega | (simp [rowF, rowP, atF, ordI, preI]; omega)) ?_; intro p97
              rw [geti_ordI]
              refine Wd.pure rfl (Step.shrC (b := 8) (m := 256) rfl rfl (by omega) (by decide) (by decide)) ?_; refine Wd.pure rfl (Step.convTo rfl (conv1 _)) ?_; refine Wd.pure rfl (Step.move (by conv => lhs; whnf)) ?_; refine Wd.pure rfl (Step.move (by conv => lhs; whnf)) ?_; refine Wd.idxI rfl (H.orow 4 (by rfl) (by first | rfl | omega | (simp; done) | (simp; omega) | (simp [rowF, rowP, atF, ordI, preI]; done) | (simp [rowF, rowP, atF, ordI, preI]; omega))) rfl (by first | omega | (simp [rowF, rowP, atF, ordI, preI]; omega)) (by first | omega | (simp [rowF, rowP, atF, ordI, preI]; omega)) ?_; intro p103
              rw [geti_ordI]
              refine Wd.pure rfl (Step.shrC (b := 16) (m := 65536) rfl rfl (by omega) (by decide) (by decide)) ?_; refine Wd.pure rfl (Step.convTo rfl (conv2 _)) ?_; refine Wd.appRoom (new := enc3 (cl.getD ((faOf 0 F2 R2).d i a) 0)) (bs := encs (cl.getD i 0 :: (List.range a).map fun b => cl.getD ((faOf 0 F2 R2).d i b) 0)) (c := 3 + 3 * k) H 7 rfl (by rfl) rfl (Fill.cons (by conv => lhs; whnf) (by rfl) (by rfl) (by rfl) (Fill.cons (by conv => lhs; whnf) (by rfl) (by rfl) (by rfl) (Fill.cons (by conv => lhs; whnf) (by rfl) (by rfl) (by rfl) (Fill.nil _)))) rfl (by rw [encs_length]; simp [enc3]; omega) (by simp [enc3]) (by simp) (by omega) (fun s' hp => by have H := H.pur hp; exact ⟨fun _ => (H.orow 4 (by rfl) (by first | rfl | omega | (simp; done) | (simp; omega) | (simp [rowF, rowP, atF, ordI, preI]; done) | (simp [rowF, rowP, atF, ordI, preI]; omega))), fun _ => (H.orow 4 (by rfl) (by first | rfl | omega | (simp; done) | (simp; omega) | (simp [rowF, rowP, atF, ordI, preI]; done) | (simp [rowF, rowP, atF, ordI, preI]; omega))), fun _ => (H.orow 4 (by rfl) (by first | rfl | omega | (simp; done) | (simp; omega) | (simp [rowF, rowP, atF, ordI, preI]; done) | (simp [rowF, rowP, atF, ordI, preI]; omega))), trivial⟩) ?_; intro p107 sK1 H; refine ⟨⟨fun h => absurd h (by omega), fun h => absurd h (by omega), fun h => absurd h (by omega), trivial⟩, ?_⟩
              have hke : encs (cl.getD i 0 :: (List.range a).map fun b => cl.getD ((faOf 0 F2 R2).d i b) 0) ++ enc3 (cl.getD ((faOf 0 F2 R2).d i a) 0) = encs (cl.getD i 0 :: (List.range (a + 1)).map fun b => cl.getD ((faOf 0 F2 R2).d i b) 0) := by rw [← encs_snoc, List.range_succ]; simp
              rw [hke] at H ⊢
              refine Wd.pure rfl (Step.move (by conv => lhs; whnf)) ?_; refine Wd.nil ?_; refine Wc.reg ?_; refine Wo.op (Step.add (b := 1) rfl rfl (by omega)) ?_; refine Wo.op (Step.move (by conv => lhs; whnf)) ?_; refine Wo.nil ?_; refine ⟨_, ?_, a + 1, rfl, rfl, rfl, rfl, rfl, rfl, rfl, rfl, rfl, rfl, rfl, rfl, rfl, rfl, H, by omega⟩
              omega
            · refine Wc.exit ?_; refine .inl ⟨rfl, ?_⟩
              have hak : a = k := by omega
              subst hak
              exact ⟨rfl, rfl, rfl, rfl, rfl, rfl, rfl, rfl, rfl, rfl, H⟩
          · intro ρx6 sx6 hP
            obtain ⟨e1, e2, e3, e6, e7, e8, e9, e10, e50, e51, H⟩ := hP
            show Wc _ _ _ _ _ _ _
            refine Wc.fix (k := 1) e1 ?_; refine Wc.fix (k := 2) e2 ?_; refine Wc.fix (k := 3) e3 ?_; refine Wc.fix (k := 6) e6 ?_; refine Wc.fix (k := 7) e7 ?_; refine Wc.fix (k := 8) e8 ?_; refine Wc.fix (k := 9) e9 ?_; refine Wc.fix (k := 10) e10 ?_; refine Wc.fix (k := 50) e50 ?_; refine Wc.fix (k := 51) e51 ?_; refine Wc.seq ?_; refine Wc.reg ?_; refine Wo.op (Step.move (by conv => lhs; whnf)) ?_; refine Wo.op (Step.move (by conv => lhs; whnf)) ?_; refine Wo.op (Step.strOf rfl (H.rstr 7 (by rfl) rfl (by rw [encs_length]; simp [keyL]; omega))) ?_; refine Wo.op (Step.lookupG H 5 rfl (by rfl) rfl) ?_; refine Wo.op (Step.move (by conv => lhs; whnf)) ?_; refine Wo.op (Step.extract rfl (by rfl)) ?_; refine Wo.op (Step.extract rfl (by rfl)) ?_; refine Wo.op (Step.move (by conv => lhs; whnf)) ?_; refine Wo.op (Step.move (by conv => lhs; whnf)) ?_; refine Wo.nil ?_; refine Wc.seq ?_; refine Wc.seq ?_; refine Wc.reg ?_; refine Wo.op (Step.move (by conv => lhs; whnf)) ?_; refine Wo.op (Step.notD rfl) ?_; refine Wo.nil ?_; refine Wc.ite rfl (fun hc118 => ?_) (fun hc118 => ?_)
            · refine Wc.seq ?_; refine Wc.reg ?_; refine Wo.op (Step.move (by conv => lhs; whnf)) ?_; refine Wo.op (Step.lenMap H 5 rfl (by rfl)) ?_; refine Wo.op (Step.move (by conv => lhs; whnf)) ?_; refine Wo.nil ?_; refine Wc.reg ?_; refine Wo.op (Step.move (by conv => lhs; whnf)) ?_; refine Wo.op (Step.move (by conv => lhs; whnf)) ?_; refine Wo.op (Step.strOf rfl (H.rstr 7 (by rfl) rfl (by rw [encs_length]; simp [keyL]; omega))) ?_; refine Wo.op (Step.move (by conv => lhs; whnf)) ?_; refine Wo.mapNew H 5 rfl (by rfl) rfl rfl rfl hc118 ?_; intro sN H nN; refine Wo.nil ?_; refine Wc.reg ?_; refine Wo.op (Step.move (by conv => lhs; whnf)) ?_; refine Wo.op (Step.move (by conv => lhs; whnf)) ?_; refine Wo.op (Step.move (by conv => lhs; whnf)) ?_; refine Wo.setI H 6 rfl rfl (by rfl) (by first | omega | (simp [rowF, rowP, atF, ordI, preI]; omega)) (by first | omega | (simp [rowF, rowP, atF, ordI, preI]; omega)) (by first | omega | (simp; omega) | (simp [rowF, rowP, atF, ordI, preI]; omega) | (simp [rowF, rowP, atF, ordI, preI]; done)) rfl ?_ (by simp); intro p128 sT128 H nT128; refine Wo.nil ?_; refine Wc.reg ?_; refine Wo.op (Step.add (b := 1) rfl rfl (by omega)) ?_; refine Wo.op (Step.move (by conv => lhs; whnf)) ?_; refine Wo.nil ?_
              have hkey : (keysF k (faOf 0 F2 R2) cl).getD i [] = encs (keyL k (faOf 0 F2 R2) cl i) := keysF_get (by omega)
              have hd : dist (keysF k (faOf 0 F2 R2) cl) [] (i + 1) = dist (keysF k (faOf 0 F2 R2) cl) [] i ++ [encs (keyL k (faOf 0 F2 R2) cl i)] := by simp only [dist, visit]; rw [hkey, if_neg hc118]
              have hnu : (number (keysF k (faOf 0 F2 R2) cl) []).getD i 0 = (dist (keysF k (faOf 0 F2 R2) cl) [] i).length := by rw [number_get (by omega), hd, hkey, idxOf_new hc118]
              rw [show ((i : Nat) : Int).toNat = i from rfl, ← hnu, preI_set (by omega), ← hd] at H
              refine ⟨_, ?_, i + 1, rfl, rfl, rfl, rfl, rfl, rfl, rfl, rfl, rfl, H.take 7, by omega⟩
              omega
            · refine Wc.skip ?_; refine Wc.reg ?_; refine Wo.op (Step.move (by conv => lhs; whnf)) ?_; refine Wo.op (Step.move (by conv => lhs; whnf)) ?_; refine Wo.op (Step.move (by conv => lhs; whnf)) ?_; refine Wo.setI H 6 rfl rfl (by rfl) (by first | omega | (simp [rowF, rowP, atF, ordI, preI]; omega)) (by first | omega | (simp [rowF, rowP, atF, ordI, preI]; omega)) (by first | omega | (simp; omega) | (simp [rowF, rowP, atF, ordI, preI]; omega) | (simp [rowF, rowP, atF, ordI, preI]; done)) rfl ?_ (by simp); intro p128 sT128 H nT128; refine Wo.nil ?_; refine Wc.reg ?_; refine Wo.op (Step.add (b := 1) rfl rfl (by omega)) ?_; refine Wo.op (Step.move (by conv => lhs; whnf)) ?_; refine Wo.nil ?_
              have hm : encs (keyL k (faOf 0 F2 R2) cl i) ∈ dist (keysF k (faOf 0 F2 R2) cl) [] i := Classical.byContradiction hc118
              have hkey : (keysF k (faOf 0 F2 R2) cl).getD i [] = encs (keyL k (faOf 0 F2 R2) cl i) := keysF_get (by omega)
              have hd : dist (keysF k (faOf 0 F2 R2) cl) [] (i + 1) = dist (keysF k (faOf 0 F2 R2) cl) [] i := by simp only [dist, visit]; rw [hkey, if_pos hm]
              have hnu : (number (keysF k (faOf 0 F2 R2) cl) []).getD i 0 = @List.idxOf _ instBEqOfDecidableEq (encs (keyL k (faOf 0 F2 R2) cl i)) (dist (keysF k (faOf 0 F2 R2) cl) [] i) := by rw [number_get (by omega), hd, hkey]
              rw [if_pos hm, show ((i : Nat) : Int).toNat = i from rfl, ← hnu, preI_set (by omega), ← hd] at H
              refine ⟨_, ?_, i + 1, rfl, rfl, rfl, rfl, rfl, rfl, rfl, rfl, rfl, H.take 7, by omega⟩
              omega
        · refine Wc.exit ?_; refine .inl ⟨rfl, ?_⟩
          exact ⟨rfl, rfl, rfl, rfl, rfl, rfl, by rw [show i = R2.length by omega, preI_full (by rw [number_length]; omega)] at H; exact H⟩
      · intro ρx4 sx4 hP
        obtain ⟨e1, e2, e3, e6, e7, e8, H⟩ := hP
        show Wc _ _ _ _ _ _ _
        refine Wc.fix (k := 1) e1 ?_; refine Wc.fix (k := 2) e2 ?_; refine Wc.fix (k := 3) e3 ?_; refine Wc.fix (k := 6) e6 ?_; refine Wc.fix (k := 7) e7 ?_; refine Wc.fix (k := 8) e8 ?_; refine Wc.seq ?_; refine Wc.reg ?_; refine Wo.op (Step.move (by conv => lhs; whnf)) ?_; refine Wo.op (Step.move (by conv => lhs; whnf)) ?_; refine Wo.nil ?_; refine Wc.seq ?_; refine Wc.seq ?_; refine Wc.reg ?_; refine Wo.op (Step.move (by conv => lhs; whnf)) ?_; refine Wo.op (Step.lenMap H 5 rfl (by rfl)) ?_; refine Wo.op (Step.move (by conv => lhs; whnf)) ?_; refine Wo.op (Step.eql rfl rfl) ?_; refine Wo.nil ?_; refine Wc.ite rfl (fun hc134 => ?_) (fun hc134 => ?_)
        · refine Wc.exit ?_; refine .inr ⟨by decide, ?_⟩; refine .inl ⟨rfl, ?_⟩
          have H := (H.merge (z := Item.own sM45.nextId 1 (enI (ordI (number (keysF k (faOf 0 F2 R2) cl) [])))) (i := 4) (j := 6) (by decide) (by rfl) (by rfl) (Chg.refl _ : Pur _ _) (fun _ h => h.elim) (H.own 6 rfl) (fun B hB => .inr (.inl hB))).take 5
          have hc : (((dist (keysF k (faOf 0 F2 R2) cl) [] R2.length).length : Nat) : Int) = ((cnt : Nat) : Int) := hc134
          have hnx : number (keysF k (faOf 0 F2 R2) cl) [] = cl := by
            rcases hcn with h | h
            · omega
            · rcases step_stop (by rw [hcl]; exact hRl) hfi hstep with hh | hh
              · rw [hMn, ← hRl] at hh; omega
              · exact hh
          have hne : Nerode k (faOf 0 F2 R2) (number (keysF k (faOf 0 F2 R2) cl) []) := by rw [hnx]; exact hco.nerode hok (by rw [hnx] at hstep; exact hstep)
          exact ⟨number (keysF k (faOf 0 F2 R2) cl) [], sM45.nextId, rfl, rfl, rfl, H, hne⟩
        · refine Wc.skip ?_; refine Wc.reg ?_; refine Wo.op (Step.move (by conv => lhs; whnf)) ?_; refine Wo.op (Step.lenMap H 5 rfl (by rfl)) ?_; refine Wo.op (Step.move (by conv => lhs; whnf)) ?_; refine Wo.nil ?_
          have H := (H.merge (z := Item.own sM45.nextId 1 (enI (ordI (number (keysF k (faOf 0 F2 R2) cl) [])))) (i := 4) (j := 6) (by decide) (by rfl) (by rfl) (Chg.refl _ : Pur _ _) (fun _ h => h.elim) (H.own 6 rfl) (fun B hB => .inr (.inl hB))).take 5
          refine ⟨_, ?_, number (keysF k (faOf 0 F2 R2) cl) [], sM45.nextId, (dist (keysF k (faOf 0 F2 R2) cl) [] R2.length).length, rfl, rfl, rfl, rfl, rfl, H, by rw [number_length]; omega, hco.step hok hstep, number_first _ _, .inr hreps.symm⟩
          have h1 := reps_le (number (keysF k (faOf 0 F2 R2) cl) []) R2.length
          have h2 : cnt < (dist (keysF k (faOf 0 F2 R2) cl) [] R2.length).length := by
            rcases hcn with h | h
            · omega
            · rcases step_stop (by rw [hcl]; exact hRl) hfi hstep with hh | hh
              · rw [hMn, ← hRl] at hh; omega
              · rw [hh] at hreps; omega
          omega
    · intro ρx2 sx2 hP
      obtain ⟨cl, A3, e1, e2, e3, H, hne⟩ := hP
      show Wc _ _ _ _ _ _ _
      refine Wc.fix (k := 1) e1 ?_; refine Wc.fix (k := 2) e2 ?_; refine Wc.fix (k := 3) e3 ?_
      have hcl : cl.length = R2.length := by rw [hne.1]; exact hRl.symm
      have hMn : (faOf 0 F2 R2).n = F2.length := rfl
      have hqa := (quot_lists hok hne).1
      have hqn : (quotF (faOf 0 F2 R2) cl).length ≤ R2.length := by have := reps_le cl F2.length; simp only [quotF, List.length_map, hMn]; omega
      have hrle := reps_le cl
      refine Wc.seq ?_; refine Wc.draw ?_; refine Wd.pure rfl (Step.faddr rfl) ?_; refine Wd.read rfl (Step.load rfl (H.row 0 rfl) (by rfl)) ?_; refine Wd.pure rfl (Step.move (by conv => lhs; whnf)) ?_; refine Wd.idxI (i := 0) rfl (H.orow 4 (by rfl) (by first | rfl | omega | (simp; done) | (simp; omega) | (simp [rowF, rowP, atF, ordI, preI]; done) | (simp [rowF, rowP, atF, ordI, preI]; omega))) rfl (by first | omega | (simp [rowF, rowP, atF, ordI, preI]; omega)) (by first | omega | (simp [rowF, rowP, atF, ordI, preI]; omega)) ?_; intro p140
      rw [show geti (ordI cl) 0 = ((cl.getD 0 0 : Nat) : Int) from geti_ordI cl 0]
      refine Wd.pure rfl (Step.buildF (Fill.cons (by conv => lhs; whnf) (by rfl) (by rfl) (by rfl) (Fill.cons (by conv => lhs; whnf) (by rfl) (by rfl) (by rfl) (Fill.nil _)))) ?_; refine Wd.allocH H (fun s' hp => by have H := H.pur hp; exact ⟨fun _ => (H.orow 4 (by rfl) (by first | rfl | omega | (simp; done) | (simp; omega) | (simp [rowF, rowP, atF, ordI, preI]; done) | (simp [rowF, rowP, atF, ordI, preI]; omega))), fun _ => reread rfl (H.row 0 rfl) (by rfl) (veq_int _ _), trivial⟩) ?_; intro sB15 oB15 cB15 H nB15; refine Wd.storeH H 5 rfl rfl (by conv => lhs; whnf) (by rfl) (ones_cons (by rfl) (ones_cons (by rfl) (ones_cons (by rfl) (ones_cons (by rfl) (rfl))))) (by rfl) ?_; intro sS1 H nS1; refine ⟨⟨fun h => absurd h (by omega), fun h => absurd h (by omega), fun h => absurd h (by omega), trivial⟩, ?_⟩
      have H := H.addNil 1
      have H := H.addRows
      refine Wd.nil ?_; refine Wc.seq ?_; refine Wc.seq ?_; refine Wc.reg ?_; refine Wo.op (Step.move (by conv => lhs; whnf)) ?_; refine Wo.op (Step.lenS rfl) ?_; refine Wo.op (Step.move (by conv => lhs; whnf)) ?_; refine Wo.nil ?_; refine Wc.mid (fun ρ' s' => ∃ (vF2 : Value) (vN2 : Value) (vs2 : List Value) (G2 : List Nat), (ρ' 1 = ptrV s.nextId 0) ∧ (ρ' 2 = ptrV sB1.nextId 0) ∧ (ρ' 15 = ptrV sx2.nextId 0) ∧ (Hs s.nextId s s' [Item.own s.nextId 0 [.int .i64 ((k : Nat) : Int), .int .i64 0, vF', vN'], Item.own sB1.nextId 0 [.int .i64 (.ofNat 0), .int .i64 (.ofNat 0), .slice none 0 0, .slice none 0 0], Item.lst 1 vF' (enB F2), Item.rows vN' vs' R2 G, Item.own A3 1 (enI (ordI cl)), Item.own sx2.nextId 0 [.int .i64 ((k : Nat) : Int), .int .i64 ((cl.getD 0 0 : Nat) : Int), vF2, vN2], Item.lst 1 vF2 (enB (quotF (faOf 0 F2 R2) cl)), Item.rows vN2 vs2 (quotR k (faOf 0 F2 R2) cl) G2])) (Wc.block (Wc.loop (fun m ρ' s' => ∃ (i : Nat) (vF2 : Value) (vN2 : Value) (vs2 : List Value) (G2 : List Nat), (ρ' 1 = ptrV s.nextId 0) ∧ (ρ' 2 = ptrV sB1.nextId 0) ∧ (ρ' 3 = .slice (some ⟨A3, 0, none⟩) R2.length R2.length) ∧ (ρ' 15 = ptrV sx2.nextId 0) ∧ (ρ' 143 = .slice (some ⟨A3, 0, none⟩) R2.length R2.length) ∧ (ρ' 144 = .int .i64 ((R2.length : Nat) : Int)) ∧ (ρ' 145 = .int .i64 ((i : Nat) : Int)) ∧ m = R2.length - i ∧ (Hs s.nextId s s' [Item.own s.nextId 0 [.int .i64 ((k : Nat) : Int), .int .i64 0, vF', vN'], Item.own sB1.nextId 0 [.int .i64 (.ofNat 0), .int .i64 (.ofNat 0), .slice none 0 0, .slice none 0 0], Item.lst 1 vF' (enB F2), Item.rows vN' vs' R2 G, Item.own A3 1 (enI (ordI cl)), Item.own sx2.nextId 0 [.int .i64 ((k : Nat) : Int), .int .i64 ((cl.getD 0 0 : Nat) : Int), vF2, vN2], Item.lst 1 vF2 (enB ((reps cl i).map (faOf 0 F2 R2).f)), Item.rows vN2 vs2 ((reps cl i).map fun p => (List.range k).map fun a => ((cl.getD ((faOf 0 F2 R2).d p a) 0 : Nat) : Int)) G2]) ∧ (i ≤ R2.length)) ?_ ?_)) ?_
      · exact ⟨_, 0, .slice none 0 0, .slice none 0 0, [], [], rfl, rfl, rfl, rfl, rfl, rfl, rfl, rfl, H, by omega⟩
      · intro m8 ρ8 s8 hI
        obtain ⟨i, vF2, vN2, vs2, G2, e1, e2, e3, e15, e143, e144, e145, hm8, H, hi⟩ := hI
        refine Wc.fix (k := 1) e1 ?_; refine Wc.fix (k := 2) e2 ?_; refine Wc.fix (k := 3) e3 ?_; refine Wc.fix (k := 15) e15 ?_; refine Wc.fix (k := 143) e143 ?_; refine Wc.fix (k := 144) e144 ?_; refine Wc.fix (k := 145) e145 ?_
        have hri := hrle i
        refine Wc.seq ?_; refine Wc.reg ?_; refine Wo.op (Step.lss rfl rfl) ?_; refine Wo.nil ?_; refine Wc.seq ?_; refine Wc.ite rfl (fun hc146 => ?_) (fun hc146 => ?_)
        · refine Wc.skip ?_; refine Wc.seq ?_; refine Wc.block ?_; refine Wc.seq ?_; refine Wc.reg ?_; refine Wo.op (Step.move (by conv => lhs; whnf)) ?_; refine Wo.idxI rfl (H.orow 4 (by rfl) (by first | rfl | omega | (simp; done) | (simp; omega) | (simp [rowF, rowP, atF, ordI, preI]; done) | (simp [rowF, rowP, atF, ordI, preI]; omega))) rfl (by first | omega | (simp [rowF, rowP, atF, ordI, preI]; omega)) (by first | omega | (simp [rowF, rowP, atF, ordI, preI]; omega)) ?_; intro p148
          rw [geti_ordI]
          refine Wo.op (Step.move (by conv => lhs; whnf)) ?_; refine Wo.op (Step.move (by conv => lhs; whnf)) ?_; refine Wo.nil ?_; refine Wc.seq ?_; refine Wc.seq ?_; refine Wc.reg ?_; refine Wo.op (Step.move (by conv => lhs; whnf)) ?_; refine Wo.op (Step.faddr rfl) ?_; refine Wo.op (Step.load rfl (H.row 5 rfl) (by rfl)) ?_; refine Wo.op (Step.lenSl rfl (H.rsl 7 rfl)) ?_; refine Wo.op (Step.lss rfl rfl) ?_; refine Wo.nil ?_; refine Wc.ite rfl (fun hc154 => ?_) (fun hc154 => ?_)
          · refine Wc.exit ?_; refine .inl ⟨rfl, ?_⟩; refine Wc.reg ?_; refine Wo.op (Step.add (b := 1) rfl rfl (by omega)) ?_; refine Wo.op (Step.move (by conv => lhs; whnf)) ?_; refine Wo.nil ?_; refine ⟨_, ?_, i + 1, _, _, _, _, rfl, rfl, rfl, rfl, rfl, rfl, rfl, rfl, by rw [show reps cl (i + 1) = reps cl i by simp only [reps]; rw [if_pos (by rw [List.length_map] at hc154; omega)]]; exact H, by omega⟩
            omega
          · refine Wc.skip ?_; refine Wc.seq ?_; refine Wc.reg ?_; refine Wo.op (Step.faddr rfl) ?_; refine Wo.op (Step.load rfl (H.row 0 rfl) (by rfl)) ?_; refine Wo.mkSliceH H rfl rfl (by omega) (by omega) (zeroI _) ?_; intro sM157 H nM157
            rw [show (enI (List.replicate ((k : Nat) : Int).toNat 0)) = enI (preI ((List.range k).map fun b => cl.getD ((faOf 0 F2 R2).d i b) 0) k 0) by rw [preI_zero]; rfl] at H
            refine Wo.op (Step.move (by conv => lhs; whnf)) ?_; refine Wo.nil ?_; refine Wc.seq ?_; refine Wc.seq ?_; refine Wc.reg ?_; refine Wo.op (Step.faddr rfl) ?_; refine Wo.op (Step.load rfl (H.row 0 rfl) (by rfl)) ?_; refine Wo.op (Step.move (by conv => lhs; whnf)) ?_; refine Wo.idxRH H 3 rfl rfl rfl (by omega) (by omega) ?_; intro p161 u162 hu162; refine Wo.op (Step.lenSl rfl (hu162 H rfl)) ?_
            have hrw := (hA2.row _ (getr_mem (R := R2) (q := ((i : Nat) : Int)) (by omega) (by omega))).1
            refine Wo.op (Step.move (by conv => lhs; whnf)) ?_; refine Wo.nil ?_; refine Wc.mid (fun ρ' s' => (ρ' 1 = ptrV s.nextId 0) ∧ (ρ' 2 = ptrV sB1.nextId 0) ∧ (ρ' 3 = .slice (some ⟨A3, 0, none⟩) R2.length R2.length) ∧ (ρ' 15 = ptrV sx2.nextId 0) ∧ (ρ' 16 = .int .i64 ((i : Nat) : Int)) ∧ (ρ' 18 = .slice (some ⟨s8.nextId, 0, none⟩) k k) ∧ (ρ' 143 = .slice (some ⟨A3, 0, none⟩) R2.length R2.length) ∧ (ρ' 144 = .int .i64 ((R2.length : Nat) : Int)) ∧ (ρ' 145 = .int .i64 ((i : Nat) : Int)) ∧ (Hs s.nextId s s' [Item.own s.nextId 0 [.int .i64 ((k : Nat) : Int), .int .i64 0, vF', vN'], Item.own sB1.nextId 0 [.int .i64 (.ofNat 0), .int .i64 (.ofNat 0), .slice none 0 0, .slice none 0 0], Item.lst 1 vF' (enB F2), Item.rows vN' vs' R2 G, Item.own A3 1 (enI (ordI cl)), Item.own sx2.nextId 0 [.int .i64 ((k : Nat) : Int), .int .i64 ((cl.getD 0 0 : Nat) : Int), vF2, vN2], Item.lst 1 vF2 (enB ((reps cl i).map (faOf 0 F2 R2).f)), Item.rows vN2 vs2 ((reps cl i).map fun p => (List.range k).map fun a => ((cl.getD ((faOf 0 F2 R2).d p a) 0 : Nat) : Int)) G2, Item.own s8.nextId 1 (enI ((List.range k).map fun a => ((cl.getD ((faOf 0 F2 R2).d i a) 0 : Nat) : Int)))])) (Wc.block (Wc.loop (fun m ρ' s' => ∃ (a : Nat), (ρ' 1 = ptrV s.nextId 0) ∧ (ρ' 2 = ptrV sB1.nextId 0) ∧ (ρ' 3 = .slice (some ⟨A3, 0, none⟩) R2.length R2.length) ∧ (ρ' 15 = ptrV sx2.nextId 0) ∧ (ρ' 16 = .int .i64 ((i : Nat) : Int)) ∧ (ρ' 18 = .slice (some ⟨s8.nextId, 0, none⟩) k k) ∧ (ρ' 143 = .slice (some ⟨A3, 0, none⟩) R2.length R2.length) ∧ (ρ' 144 = .int .i64 ((R2.length : Nat) : Int)) ∧ (ρ' 145 = .int .i64 ((i : Nat) : Int)) ∧ (ρ' 162 = u162) ∧ (ρ' 163 = .int .i64 ((k : Nat) : Int)) ∧ (ρ' 164 = .int .i64 ((a : Nat) : Int)) ∧ m = k - a ∧ (Hs s.nextId s s' [Item.own s.nextId 0 [.int .i64 ((k : Nat) : Int), .int .i64 0, vF', vN'], Item.own sB1.nextId 0 [.int .i64 (.ofNat 0), .int .i64 (.ofNat 0), .slice none 0 0, .slice none 0 0], Item.lst 1 vF' (enB F2), Item.rows vN' vs' R2 G, Item.own A3 1 (enI (ordI cl)), Item.own sx2.nextId 0 [.int .i64 ((k : Nat) : Int), .int .i64 ((cl.getD 0 0 : Nat) : Int), vF2, vN2], Item.lst 1 vF2 (enB ((reps cl i).map (faOf 0 F2 R2).f)), Item.rows vN2 vs2 ((reps cl i).map fun p => (List.range k).map fun a => ((cl.getD ((faOf 0 F2 R2).d p a) 0 : Nat) : Int)) G2, Item.own s8.nextId 1 (enI (preI ((List.range k).map fun b => cl.getD ((faOf 0 F2 R2).d i b) 0) k a))]) ∧ (a ≤ k)) ?_ ?_)) ?_
            · exact ⟨_, 0, rfl, rfl, rfl, rfl, rfl, rfl, rfl, rfl, rfl, rfl, congrArg (fun n : Nat => Value.int .i64 (n : Int)) hrw, rfl, rfl, H, by omega⟩
            · intro m10 ρ10 s10 hI
              obtain ⟨a, e1, e2, e3, e15, e16, e18, e143, e144, e145, e162, e163, e164, hm10, H, ha⟩ := hI
              refine Wc.fix (k := 1) e1 ?_; refine Wc.fix (k := 2) e2 ?_; refine Wc.fix (k := 3) e3 ?_; refine Wc.fix (k := 15) e15 ?_; refine Wc.fix (k := 16) e16 ?_; refine Wc.fix (k := 18) e18 ?_; refine Wc.fix (k := 143) e143 ?_; refine Wc.fix (k := 144) e144 ?_; refine Wc.fix (k := 145) e145 ?_; refine Wc.fix (k := 162) e162 ?_; refine Wc.fix (k := 163) e163 ?_; refine Wc.fix (k := 164) e164 ?_; refine Wc.seq ?_; refine Wc.reg ?_; refine Wo.op (Step.lss rfl rfl) ?_; refine Wo.nil ?_; refine Wc.seq ?_; refine Wc.ite rfl (fun hc165 => ?_) (fun hc165 => ?_)
              · refine Wc.skip ?_; refine Wc.seq ?_; refine Wc.block ?_; refine Wc.seq ?_; refine Wc.reg ?_; refine Wo.op (Step.move (by conv => lhs; whnf)) ?_; refine Wo.idxI rfl (hu162 H rfl) rfl (by omega) (by omega) ?_; intro p167
                have hq := (hA2.get (q := i) (a := a) (by omega) (by omega)).2
                rw [hq]
                have hql : (faOf 0 F2 R2).d i a < R2.length := by have := hok.2 i a (by rw [hMn]; omega) (by omega); rw [hRl]; exact this
                refine Wo.op (Step.move (by conv => lhs; whnf)) ?_; refine Wo.op (Step.move (by conv => lhs; whnf)) ?_; refine Wo.nil ?_; refine Wc.reg ?_; refine Wo.op (Step.move (by conv => lhs; whnf)) ?_; refine Wo.op (Step.move (by conv => lhs; whnf)) ?_; refine Wo.op (Step.move (by conv => lhs; whnf)) ?_; refine Wo.op (Step.move (by conv => lhs; whnf)) ?_; refine Wo.idxI rfl (H.orow 4 (by rfl) (by first | rfl | omega | (simp; done) | (simp; omega) | (simp [rowF, rowP, atF, ordI, preI]; done) | (simp [rowF, rowP, atF, ordI, preI]; omega))) rfl (by first | omega | (simp [rowF, rowP, atF, ordI, preI]; omega)) (by first | omega | (simp [rowF, rowP, atF, ordI, preI]; omega)) ?_; intro p173; refine Wo.setI H 8 rfl rfl (by rfl) (by first | omega | (simp [rowF, rowP, atF, ordI, preI]; omega)) (by first | omega | (simp [rowF, rowP, atF, ordI, preI]; omega)) (by first | omega | (simp; omega) | (simp [rowF, rowP, atF, ordI, preI]; omega) | (simp [rowF, rowP, atF, ordI, preI]; done)) rfl ?_ (by simp); intro p175 sT175 H nT175; refine Wo.nil ?_; refine Wc.reg ?_; refine Wo.op (Step.add (b := 1) rfl rfl (by omega)) ?_; refine Wo.op (Step.move (by conv => lhs; whnf)) ?_; refine Wo.nil ?_
                rw [geti_ordI, show ((a : Nat) : Int).toNat = a from rfl, show cl.getD ((faOf 0 F2 R2).d i a) 0 = ((List.range k).map fun b => cl.getD ((faOf 0 F2 R2).d i b) 0).getD a 0 by simp [show a < k by omega], preI_set (by omega)] at H
                refine ⟨_, ?_, a + 1, rfl, rfl, rfl, rfl, rfl, rfl, rfl, rfl, rfl, rfl, rfl, rfl, rfl, H, by omega⟩
                omega
              · refine Wc.exit ?_; refine .inl ⟨rfl, ?_⟩
                have hak : a = k := by omega
                subst hak
                rw [preI_of] at H
                exact ⟨rfl, rfl, rfl, rfl, rfl, rfl, rfl, rfl, rfl, H⟩
            · intro ρx10 sx10 hP
              obtain ⟨e1, e2, e3, e15, e16, e18, e143, e144, e145, H⟩ := hP
              show Wc _ _ _ _ _ _ _
              refine Wc.fix (k := 1) e1 ?_; refine Wc.fix (k := 2) e2 ?_; refine Wc.fix (k := 3) e3 ?_; refine Wc.fix (k := 15) e15 ?_; refine Wc.fix (k := 16) e16 ?_; refine Wc.fix (k := 18) e18 ?_; refine Wc.fix (k := 143) e143 ?_; refine Wc.fix (k := 144) e144 ?_; refine Wc.fix (k := 145) e145 ?_; refine Wc.seq ?_; refine Wc.reg ?_; refine Wo.op (Step.faddr rfl) ?_; refine Wo.op (Step.load rfl (H.row 5 rfl) (by rfl)) ?_; refine Wo.op (Step.move (by conv => lhs; whnf)) ?_; refine Wo.appRowH H 7 8 (by decide) rfl (by rfl) (H.orow 8 (by rfl) (by first | rfl | omega | (simp; done) | (simp; omega) | (simp [rowF, rowP, atF, ordI, preI]; done) | (simp [rowF, rowP, atF, ordI, preI]; omega))) rfl (by rfl) (by rfl) (by simp) (by first | omega | (simp only [List.length_map, List.length_take]; omega) | (simp [rowF, rowP, atF, ordI, preI]; omega)) ?_; intro p180 v181 sA181 F181 H nA181; refine Wo.op (Step.faddr rfl) ?_; refine Wo.storeH H 5 rfl rfl (Sl.cellE (H.rsl 7 rfl) rfl) (by rfl) (Sl.one (H.rsl 7 rfl)) (by rfl) ?_; intro sS2 H nS2; refine Wo.nil ?_; refine Wc.draw ?_; refine Wd.pure rfl (Step.faddr rfl) ?_; refine Wd.read rfl (Step.load rfl (H.row 5 rfl) (by rfl)) ?_; refine Wd.pure rfl (Step.faddr rfl) ?_; refine Wd.read rfl (Step.load rfl (H.row 0 rfl) (by rfl)) ?_; refine Wd.pure rfl (Step.move (by conv => lhs; whnf)) ?_; refine Wd.idxB rfl (H.bools 2 rfl) rfl (by omega) (by omega) ?_; intro p188; refine Wd.appB H 6 rfl (by rfl) rfl (by simp) (by omega) (by first | omega | (simp only [List.length_map, List.length_take]; omega) | (simp [rowF, rowP, atF, ordI, preI]; omega)) (fun s' hp => by have H := H.pur hp; exact ⟨fun _ => (H.bools 2 rfl), fun _ => reread rfl (H.row 0 rfl) (by rfl) (Sl.veq (H.bools 2 rfl)), fun _ => reread rfl (H.row 5 rfl) (by rfl) (Sl.veq (H.bools 6 rfl)), trivial⟩) ?_; intro p190 v191 sA191 H nA191; refine ⟨⟨fun h => absurd h (by omega), fun h => absurd h (by omega), fun h => absurd h (by omega), trivial⟩, ?_⟩; refine Wd.pure rfl (Step.faddr rfl) ?_
              refine Wd.storeH H 5 rfl rfl (Sl.cellE (H.bools 6 rfl) rfl) (by rfl) (Sl.one (H.bools 6 rfl)) (by rfl) ?_; intro sS3 H nS3; refine ⟨⟨by omega, fun h => absurd h (by omega), fun h => absurd h (by omega), fun h => absurd h (by omega), trivial⟩, ?_⟩; refine Wd.nil ?_; refine Wc.reg ?_; refine Wo.op (Step.add (b := 1) rfl rfl (by omega)) ?_; refine Wo.op (Step.move (by conv => lhs; whnf)) ?_; refine Wo.nil ?_
              have hre : reps cl (i + 1) = reps cl i ++ [i] := by simp only [reps]; rw [if_neg (by rw [List.length_map] at hc154; omega)]
              have hgf : getb F2 ((i : Nat) : Int) = (faOf 0 F2 R2).f i := by rw [getb_getD]; rfl
              have e1 : (reps cl (i + 1)).map (faOf 0 F2 R2).f = (reps cl i).map (faOf 0 F2 R2).f ++ [(faOf 0 F2 R2).f i] := by rw [hre, List.map_append]; rfl
              have e2 : (reps cl (i + 1)).map (fun p => (List.range k).map fun a => ((cl.getD ((faOf 0 F2 R2).d p a) 0 : Nat) : Int)) = (reps cl i).map (fun p => (List.range k).map fun a => ((cl.getD ((faOf 0 F2 R2).d p a) 0 : Nat) : Int)) ++ [(List.range k).map fun a => ((cl.getD ((faOf 0 F2 R2).d i a) 0 : Nat) : Int)] := by rw [hre, List.map_append]; rfl
              rw [hgf, ← e1, ← e2] at H
              refine ⟨_, ?_, i + 1, _, _, _, _, rfl, rfl, rfl, rfl, rfl, rfl, rfl, rfl, H.take 8, by omega⟩
              omega
        · refine Wc.exit ?_; refine .inl ⟨rfl, ?_⟩
          exact ⟨_, _, _, _, rfl, rfl, rfl, by rw [show i = F2.length by omega] at H; exact H⟩
      · intro ρx8 sx8 hP
        obtain ⟨vF2, vN2, vs2, G2, e1, e2, e15, H⟩ := hP
        show Wc _ _ _ _ _ _ _
        refine Wc.fix (k := 1) e1 ?_; refine Wc.fix (k := 2) e2 ?_; refine Wc.fix (k := 15) e15 ?_; refine Wc.seq ?_; refine Wc.reg ?_; refine Wo.op (Step.loadN rfl (H.row 5 rfl) (by rfl)) ?_
        -- call machine_trim
        refine Wo.call (Wf.mono (machine_trim_ok2 (P := fun A => A < sx8.nextId) ((H.bools 6 rfl).mono (fun A h _ => h)) ((H.rows 7 rfl).mono (fun A h _ => h)) (fun A h => h) hqa (by omega) hk) ?_)
        rintro _ s5 ⟨vF3, vN3, vs3, G3, t3, htab3, hA3, hS3, hle3, rfl, hnew3⟩
        have H := H.adds hnew3
        refine Wo.storeH H 1 rfl rfl (by conv => lhs; whnf) (by rfl) (ones_cons (by rfl) (ones_cons (by rfl) (ones_cons (Sl.one (H.bools 8 rfl)) (ones_cons (Sl.one (H.rsl 9 rfl)) (rfl))))) (by rfl) ?_; intro sS4 H nS4; refine Wo.nil ?_; refine Wc.ret ⟨_, Rs.cells rfl (Row.cells (H.row 1 rfl)) (by rfl) (Rs.nil), ?_⟩
        exact ⟨_, _, _, _, t3, (quot_lists hok hne).2 _ t3 htab3 hS, hA3, by omega, rfl, H.new2 8 9 (by decide) rfl rfl⟩
end Go.EvK
end

section
set_option linter.unusedVariables false
set_option maxRecDepth 100000
set_option maxHeartbeats 4000000
namespace Go.EvK
open Go Go.Ev Go.EvW Go.Co Go.Aut
theorem dfa_Validate_ok {s : St} {P : Nat → Prop} {L st : Int} {vF vN : Value} {F : List Bool} {R : List (List Int)} (hF : IsBools s P vF F) (hN : IsRows s P vN R) (hPN : ∀ A, P A → A < s.nextId) (hlF : F.length < 9223372036854775807) (hlN : R.length < 9223372036854775807) (hlR : ∀ r, r ∈ R → r.length < 9223372036854775807) :
    Wf kprog n_dfa_Validate [.agg ⟨[.int .i64 L, .int .i64 st, vF, vN]⟩] s (fun v s' => v = .int .i64 (validD L st F R) ∧ Pur s s') := by
  have H := Hs.start s
  refine Wf.of p_dfa_Validate rfl ?_
  unfold c_dfa_Validate
  refine Wc.seq ?_; refine Wc.reg ?_; refine Wo.boxH H (by conv => lhs; whnf) ?_; intro sB1 H nB1; refine Wo.op (Step.move (by conv => lhs; whnf)) ?_; refine Wo.nil ?_; refine Wc.seq ?_; refine Wc.reg ?_; refine Wo.op (Step.faddr rfl) ?_; refine Wo.op (Step.load rfl (H.row 0 rfl) (by rfl)) ?_; refine Wo.op (Step.lenSl rfl (hF.at H hPN)) ?_; refine Wo.op (Step.move (by conv => lhs; whnf)) ?_; refine Wo.nil ?_; refine Wc.seq ?_; refine Wc.block ?_; refine Wc.seq ?_; refine Wc.reg ?_; refine Wo.op (Step.faddr rfl) ?_; refine Wo.op (Step.load rfl (H.row 0 rfl) (by rfl)) ?_; refine Wo.op (Step.lss (b := 1) rfl rfl) ?_; refine Wo.op (Step.move (by conv => lhs; whnf)) ?_; refine Wo.cases (j := 15) rfl (fun hc15 => ?_) (fun hc15 => ?_)
  · refine Wo.off rfl rfl ?_; refine Wo.off rfl rfl ?_; refine Wo.off rfl rfl ?_; refine Wo.op (Step.pickT rfl (by conv => lhs; whnf)) ?_; refine Wo.op (Step.move (by conv => lhs; whnf)) ?_; refine Wo.nil ?_; refine Wc.yes rfl ?_; refine Wc.seq ?_; refine Wc.reg ?_; refine Wo.op (Step.move (by conv => lhs; whnf)) ?_; refine Wo.nil ?_; refine Wc.ret ⟨_, Rs.tmp (by conv => lhs; whnf) (Rs.nil), ?_⟩
    exact ⟨congrArg (Value.int .i64) (by unfold validD; rw [if_pos (by omega)]; rfl), H.topur⟩
  · refine Wo.on rfl ?_; refine Wo.op (Step.faddr rfl) ?_; refine Wo.on rfl ?_; refine Wo.op (Step.load rfl (H.row 0 rfl) (by rfl)) ?_; refine Wo.on rfl ?_; refine Wo.op (Step.gtr (b := 6) rfl rfl) ?_; refine Wo.op (Step.pickF rfl (by conv => lhs; whnf)) ?_; refine Wo.op (Step.move (by conv => lhs; whnf)) ?_; refine Wo.nil ?_; refine Wc.ite rfl (fun hc11 => ?_) (fun hc11 => ?_)
    · refine Wc.seq ?_; refine Wc.reg ?_; refine Wo.op (Step.move (by conv => lhs; whnf)) ?_; refine Wo.nil ?_; refine Wc.ret ⟨_, Rs.tmp (by conv => lhs; whnf) (Rs.nil), ?_⟩
      exact ⟨congrArg (Value.int .i64) (by unfold validD; rw [if_pos (by omega)]; rfl), H.topur⟩
    · refine Wc.seq ?_; refine Wc.reg ?_; refine Wo.op (Step.move (by conv => lhs; whnf)) ?_; refine Wo.op (Step.gtr (b := 512) rfl rfl) ?_; refine Wo.op (Step.move (by conv => lhs; whnf)) ?_; refine Wo.nil ?_; refine Wc.ite rfl (fun hc20 => ?_) (fun hc20 => ?_)
      · refine Wc.seq ?_; refine Wc.reg ?_; refine Wo.op (Step.move (by conv => lhs; whnf)) ?_; refine Wo.nil ?_; refine Wc.ret ⟨_, Rs.tmp (by conv => lhs; whnf) (Rs.nil), ?_⟩
        exact ⟨congrArg (Value.int .i64) (by unfold validD; rw [if_neg (by omega), if_pos (by omega)]; rfl), H.topur⟩
      · refine Wc.seq ?_; refine Wc.reg ?_; refine Wo.op (Step.move (by conv => lhs; whnf)) ?_; refine Wo.op (Step.eql (b := 0) rfl rfl) ?_; refine Wo.op (Step.move (by conv => lhs; whnf)) ?_; refine Wo.cases (j := 26) rfl (fun hc26 => ?_) (fun hc26 => ?_)
        · refine Wo.off rfl rfl ?_; refine Wo.off rfl rfl ?_; refine Wo.off rfl rfl ?_; refine Wo.off rfl rfl ?_; refine Wo.off rfl rfl ?_; refine Wo.op (Step.pickT rfl (by conv => lhs; whnf)) ?_; refine Wo.op (Step.move (by conv => lhs; whnf)) ?_; refine Wo.off rfl rfl ?_; refine Wo.off rfl rfl ?_; refine Wo.off rfl rfl ?_; refine Wo.op (Step.pickT rfl (by conv => lhs; whnf)) ?_; refine Wo.op (Step.move (by conv => lhs; whnf)) ?_; refine Wo.off rfl rfl ?_; refine Wo.off rfl rfl ?_; refine Wo.off rfl rfl ?_; refine Wo.off rfl rfl ?_; refine Wo.op (Step.pickT rfl (by conv => lhs; whnf)) ?_; refine Wo.op (Step.move (by conv => lhs; whnf)) ?_; refine Wo.nil ?_; refine Wc.yes rfl ?_; refine Wc.seq ?_; refine Wc.reg ?_; refine Wo.op (Step.move (by conv => lhs; whnf)) ?_; refine Wo.nil ?_; refine Wc.ret ⟨_, Rs.tmp (by conv => lhs; whnf) (Rs.nil), ?_⟩
          exact ⟨congrArg (Value.int .i64) (by unfold validD; rw [if_neg (by omega), if_neg (by omega), if_pos (by omega)]; rfl), H.topur⟩
        · refine Wo.on rfl ?_; refine Wo.op (Step.faddr rfl) ?_; refine Wo.on rfl ?_; refine Wo.op (Step.load rfl (H.row 0 rfl) (by rfl)) ?_; refine Wo.on rfl ?_; refine Wo.op (Step.lenRows rfl ((hN.at H hPN))) ?_; refine Wo.on rfl ?_; refine Wo.op (Step.move (by conv => lhs; whnf)) ?_; refine Wo.on rfl ?_; refine Wo.op (Step.neq rfl rfl) ?_; refine Wo.op (Step.pickF rfl (by conv => lhs; whnf)) ?_; refine Wo.op (Step.move (by conv => lhs; whnf)) ?_; refine Wo.cases (j := 33) rfl (fun hc33 => ?_) (fun hc33 => ?_)
          · refine Wo.off rfl rfl ?_; refine Wo.off rfl rfl ?_; refine Wo.off rfl rfl ?_; refine Wo.op (Step.pickT rfl (by conv => lhs; whnf)) ?_; refine Wo.op (Step.move (by conv => lhs; whnf)) ?_; refine Wo.off rfl rfl ?_; refine Wo.off rfl rfl ?_; refine Wo.off rfl rfl ?_; refine Wo.off rfl rfl ?_; refine Wo.op (Step.pickT rfl (by conv => lhs; whnf)) ?_; refine Wo.op (Step.move (by conv => lhs; whnf)) ?_; refine Wo.nil ?_; refine Wc.yes rfl ?_; refine Wc.seq ?_; refine Wc.reg ?_; refine Wo.op (Step.move (by conv => lhs; whnf)) ?_; refine Wo.nil ?_; refine Wc.ret ⟨_, Rs.tmp (by conv => lhs; whnf) (Rs.nil), ?_⟩
            exact ⟨congrArg (Value.int .i64) (by unfold validD; rw [if_neg (by omega), if_neg (by omega), if_pos (by omega)]; rfl), H.topur⟩
          · refine Wo.on rfl ?_; refine Wo.op (Step.faddr rfl) ?_; refine Wo.on rfl ?_; refine Wo.op (Step.load rfl (H.row 0 rfl) (by rfl)) ?_; refine Wo.on rfl ?_; refine Wo.op (Step.lss (b := 0) rfl rfl) ?_; refine Wo.op (Step.pickF rfl (by conv => lhs; whnf)) ?_; refine Wo.op (Step.move (by conv => lhs; whnf)) ?_; refine Wo.cases (j := 38) rfl (fun hc38 => ?_) (fun hc38 => ?_)
            · refine Wo.off rfl rfl ?_; refine Wo.off rfl rfl ?_; refine Wo.off rfl rfl ?_; refine Wo.off rfl rfl ?_; refine Wo.op (Step.pickT rfl (by conv => lhs; whnf)) ?_; refine Wo.op (Step.move (by conv => lhs; whnf)) ?_; refine Wo.nil ?_; refine Wc.yes rfl ?_; refine Wc.seq ?_; refine Wc.reg ?_; refine Wo.op (Step.move (by conv => lhs; whnf)) ?_; refine Wo.nil ?_; refine Wc.ret ⟨_, Rs.tmp (by conv => lhs; whnf) (Rs.nil), ?_⟩
              exact ⟨congrArg (Value.int .i64) (by unfold validD; rw [if_neg (by omega), if_neg (by omega), if_pos (by omega)]; rfl), H.topur⟩
            · refine Wo.on rfl ?_; refine Wo.op (Step.faddr rfl) ?_; refine Wo.on rfl ?_; refine Wo.op (Step.load rfl (H.row 0 rfl) (by rfl)) ?_; refine Wo.on rfl ?_; refine Wo.op (Step.move (by conv => lhs; whnf)) ?_; refine Wo.on rfl ?_; refine Wo.op (Step.geq rfl rfl) ?_; refine Wo.op (Step.pickF rfl (by conv => lhs; whnf)) ?_; refine Wo.op (Step.move (by conv => lhs; whnf)) ?_; refine Wo.nil ?_; refine Wc.ite rfl (fun hc23 => ?_) (fun hc23 => ?_)
              · refine Wc.seq ?_; refine Wc.reg ?_; refine Wo.op (Step.move (by conv => lhs; whnf)) ?_; refine Wo.nil ?_; refine Wc.ret ⟨_, Rs.tmp (by conv => lhs; whnf) (Rs.nil), ?_⟩
                exact ⟨congrArg (Value.int .i64) (by unfold validD; rw [if_neg (by omega), if_neg (by omega), if_pos (by omega)]; rfl), H.topur⟩
              · refine Wc.skip ?_; refine Wc.seq ?_; refine Wc.seq ?_; refine Wc.reg ?_; refine Wo.op (Step.faddr rfl) ?_; refine Wo.op (Step.load rfl (H.row 0 rfl) (by rfl)) ?_; refine Wo.op (Step.lenRows rfl ((hN.at H hPN))) ?_; refine Wo.op (Step.move (by conv => lhs; whnf)) ?_; refine Wo.nil ?_; refine Wc.mid (fun ρ' s' => (Hs s.nextId s s' [Item.own s.nextId 0 [.int .i64 L, .int .i64 st, vF, vN]]) ∧ (∀ r, r ∈ R → RowOk L F.length r)) (Wc.block (Wc.loop (fun m ρ' s' => ∃ (i : Nat), (ρ' 1 = ptrV s.nextId 0) ∧ (ρ' 3 = .int .i64 ((F.length : Nat) : Int)) ∧ (ρ' 45 = vN) ∧ (ρ' 46 = .int .i64 ((R.length : Nat) : Int)) ∧ (ρ' 47 = .int .i64 ((i : Nat) : Int)) ∧ m = R.length - i ∧ (Hs s.nextId s s' [Item.own s.nextId 0 [.int .i64 L, .int .i64 st, vF, vN]]) ∧ (i ≤ R.length) ∧ (∀ r, r ∈ R.take i → RowOk L F.length r)) ?_ ?_)) ?_
                · exact ⟨_, 0, rfl, rfl, rfl, rfl, rfl, rfl, H, by omega, by intro r hr; simp at hr⟩
                · intro m1 ρ1 s1 hI
                  obtain ⟨i, e1, e3, e45, e46, e47, hm1, H, hi, hz⟩ := hI
                  refine Wc.fix (k := 1) e1 ?_; refine Wc.fix (k := 3) e3 ?_; refine Wc.fix (k := 45) e45 ?_; refine Wc.fix (k := 46) e46 ?_; refine Wc.fix (k := 47) e47 ?_; refine Wc.seq ?_; refine Wc.reg ?_; refine Wo.op (Step.lss rfl rfl) ?_; refine Wo.nil ?_; refine Wc.seq ?_; refine Wc.ite rfl (fun hc48 => ?_) (fun hc48 => ?_)
                  · refine Wc.skip ?_; refine Wc.seq ?_; refine Wc.block ?_; refine Wc.seq ?_; refine Wc.reg ?_; refine Wo.idxR0 H rfl (hN) hPN rfl (by omega) (by omega) ?_; intro p49 u50 hu50; refine Wo.op (Step.move (by conv => lhs; whnf)) ?_; refine Wo.nil ?_; refine Wc.seq ?_; refine Wc.seq ?_; refine Wc.reg ?_; refine Wo.op (Step.move (by conv => lhs; whnf)) ?_; refine Wo.op (Step.lenSl rfl (hu50.at H hPN)) ?_
                    have hlr := hlR _ (getr_mem (R := R) (q := ((i : Nat) : Int)) (by omega) (by omega))
                    refine Wo.op (Step.faddr rfl) ?_; refine Wo.op (Step.load rfl (H.row 0 rfl) (by rfl)) ?_; refine Wo.op (Step.neq rfl rfl) ?_; refine Wo.nil ?_; refine Wc.ite rfl (fun hc55 => ?_) (fun hc55 => ?_)
                    · refine Wc.seq ?_; refine Wc.reg ?_; refine Wo.op (Step.move (by conv => lhs; whnf)) ?_; refine Wo.nil ?_; refine Wc.ret ⟨_, Rs.tmp (by conv => lhs; whnf) (Rs.nil), ?_⟩
                      exact ⟨congrArg (Value.int .i64) (validD_bad (by omega) (by omega) (getr_mem (R := R) (q := ((i : Nat) : Int)) (by omega) (by omega)) (fun h => by have := h.1; omega)).symm, H.topur⟩
                    · refine Wc.skip ?_; refine Wc.seq ?_; refine Wc.reg ?_; refine Wo.op (Step.move (by conv => lhs; whnf)) ?_; refine Wo.op (Step.lenSl rfl (hu50.at H hPN)) ?_; refine Wo.op (Step.move (by conv => lhs; whnf)) ?_; refine Wo.nil ?_; refine Wc.mid (fun ρ' s' => (ρ' 1 = ptrV s.nextId 0) ∧ (ρ' 3 = .int .i64 ((F.length : Nat) : Int)) ∧ (ρ' 45 = vN) ∧ (ρ' 46 = .int .i64 ((R.length : Nat) : Int)) ∧ (ρ' 47 = .int .i64 ((i : Nat) : Int)) ∧ (Hs s.nextId s s' [Item.own s.nextId 0 [.int .i64 L, .int .i64 st, vF, vN]]) ∧ (∀ x, x ∈ getr R ((i : Nat) : Int) → 0 ≤ x ∧ x < (F.length : Int))) (Wc.block (Wc.loop (fun m ρ' s' => ∃ (a : Nat), (ρ' 1 = ptrV s.nextId 0) ∧ (ρ' 3 = .int .i64 ((F.length : Nat) : Int)) ∧ (ρ' 45 = vN) ∧ (ρ' 46 = .int .i64 ((R.length : Nat) : Int)) ∧ (ρ' 47 = .int .i64 ((i : Nat) : Int)) ∧ (ρ' 56 = u50) ∧ (ρ' 57 = .int .i64 (((getr R ((i : Nat) : Int)).length : Nat) : Int)) ∧ (ρ' 58 = .int .i64 ((a : Nat) : Int)) ∧ m = (getr R ((i : Nat) : Int)).length - a ∧ (Hs s.nextId s s' [Item.own s.nextId 0 [.int .i64 L, .int .i64 st, vF, vN]]) ∧ (a ≤ (getr R ((i : Nat) : Int)).length) ∧ (∀ x, x ∈ (getr R ((i : Nat) : Int)).take a → 0 ≤ x ∧ x < (F.length : Int))) ?_ ?_)) ?_
                      · exact ⟨_, 0, rfl, rfl, rfl, rfl, rfl, rfl, rfl, rfl, rfl, H, by omega, by intro r hr; simp at hr⟩
                      · intro m3 ρ3 s3 hI
                        obtain ⟨a, e1, e3, e45, e46, e47, e56, e57, e58, hm3, H, ha, hx⟩ := hI
                        refine Wc.fix (k := 1) e1 ?_; refine Wc.fix (k := 3) e3 ?_; refine Wc.fix (k := 45) e45 ?_; refine Wc.fix (k := 46) e46 ?_; refine Wc.fix (k := 47) e47 ?_; refine Wc.fix (k := 56) e56 ?_; refine Wc.fix (k := 57) e57 ?_; refine Wc.fix (k := 58) e58 ?_; refine Wc.seq ?_; refine Wc.reg ?_; refine Wo.op (Step.lss rfl rfl) ?_; refine Wo.nil ?_; refine Wc.seq ?_; refine Wc.ite rfl (fun hc59 => ?_) (fun hc59 => ?_)
                        · refine Wc.skip ?_; refine Wc.seq ?_; refine Wc.block ?_; refine Wc.seq ?_; refine Wc.reg ?_; refine Wo.idxI rfl (hu50.at H hPN) rfl (by omega) (by omega) ?_; intro p60; refine Wo.op (Step.move (by conv => lhs; whnf)) ?_; refine Wo.nil ?_; refine Wc.seq ?_; refine Wc.reg ?_; refine Wo.op (Step.move (by conv => lhs; whnf)) ?_; refine Wo.op (Step.lss (b := 0) rfl rfl) ?_; refine Wo.op (Step.move (by conv => lhs; whnf)) ?_; refine Wo.cases (j := 64) rfl (fun hc64 => ?_) (fun hc64 => ?_)
                          · refine Wo.off rfl rfl ?_; refine Wo.off rfl rfl ?_; refine Wo.off rfl rfl ?_; refine Wo.op (Step.pickT rfl (by conv => lhs; whnf)) ?_; refine Wo.nil ?_; refine Wc.yes rfl ?_; refine Wc.seq ?_; refine Wc.reg ?_; refine Wo.op (Step.move (by conv => lhs; whnf)) ?_; refine Wo.nil ?_; refine Wc.ret ⟨_, Rs.tmp (by conv => lhs; whnf) (Rs.nil), ?_⟩
                            exact ⟨congrArg (Value.int .i64) (validD_bad (by omega) (by omega) (getr_mem (R := R) (q := ((i : Nat) : Int)) (by omega) (by omega)) (fun h => by have := h.2 _ (geti_mem (xs := getr R ((i : Nat) : Int)) (i := ((a : Nat) : Int)) (by omega) (by omega)); omega)).symm, H.topur⟩
                          · refine Wo.on rfl ?_; refine Wo.op (Step.move (by conv => lhs; whnf)) ?_; refine Wo.on rfl ?_; refine Wo.op (Step.move (by conv => lhs; whnf)) ?_; refine Wo.on rfl ?_; refine Wo.op (Step.geq rfl rfl) ?_; refine Wo.op (Step.pickF rfl (by conv => lhs; whnf)) ?_; refine Wo.nil ?_; refine Wc.ite rfl (fun hc68 => ?_) (fun hc68 => ?_)
                            · refine Wc.seq ?_; refine Wc.reg ?_; refine Wo.op (Step.move (by conv => lhs; whnf)) ?_; refine Wo.nil ?_; refine Wc.ret ⟨_, Rs.tmp (by conv => lhs; whnf) (Rs.nil), ?_⟩
                              exact ⟨congrArg (Value.int .i64) (validD_bad (by omega) (by omega) (getr_mem (R := R) (q := ((i : Nat) : Int)) (by omega) (by omega)) (fun h => by have := h.2 _ (geti_mem (xs := getr R ((i : Nat) : Int)) (i := ((a : Nat) : Int)) (by omega) (by omega)); omega)).symm, H.topur⟩
                            · refine Wc.skip ?_; refine Wc.reg ?_; refine Wo.op (Step.add (b := 1) rfl rfl (by omega)) ?_; refine Wo.op (Step.move (by conv => lhs; whnf)) ?_; refine Wo.nil ?_; refine ⟨_, ?_, a + 1, rfl, rfl, rfl, rfl, rfl, rfl, rfl, rfl, rfl, H, by omega, by intro x hx2; rw [take_geti (by omega), List.mem_append, List.mem_singleton] at hx2; rcases hx2 with hx2 | rfl; exact hx x hx2; omega⟩
                              omega
                        · refine Wc.exit ?_; refine .inl ⟨rfl, ?_⟩
                          exact ⟨rfl, rfl, rfl, rfl, rfl, H, by rw [List.take_of_length_le (by omega)] at hx; exact hx⟩
                      · intro ρx3 sx3 hP
                        obtain ⟨e1, e3, e45, e46, e47, H, hall⟩ := hP
                        show Wc _ _ _ _ _ _ _
                        refine Wc.fix (k := 1) e1 ?_; refine Wc.fix (k := 3) e3 ?_; refine Wc.fix (k := 45) e45 ?_; refine Wc.fix (k := 46) e46 ?_; refine Wc.fix (k := 47) e47 ?_; refine Wc.reg ?_; refine Wo.op (Step.add (b := 1) rfl rfl (by omega)) ?_; refine Wo.op (Step.move (by conv => lhs; whnf)) ?_; refine Wo.nil ?_; refine ⟨_, ?_, i + 1, rfl, rfl, rfl, rfl, rfl, rfl, H, by omega, by intro r hr; rw [take_getr (by omega), List.mem_append, List.mem_singleton] at hr; rcases hr with hr | rfl; exact hz r hr; exact ⟨by omega, hall⟩⟩
                        omega
                  · refine Wc.exit ?_; refine .inl ⟨rfl, ?_⟩
                    exact ⟨H, by rw [List.take_of_length_le (by omega)] at hz; exact hz⟩
                · intro ρx1 sx1 hP
                  obtain ⟨H, hz⟩ := hP
                  show Wc _ _ _ _ _ _ _
                  refine Wc.seq ?_; refine Wc.reg ?_; refine Wo.op (Step.move (by conv => lhs; whnf)) ?_; refine Wo.nil ?_; refine Wc.ret ⟨_, Rs.tmp (by conv => lhs; whnf) (Rs.nil), ?_⟩
                  exact ⟨congrArg (Value.int .i64) (by unfold validD; rw [if_neg (by omega), if_neg (by omega), if_neg (by omega), if_pos hz]; rfl), H.topur⟩
theorem machine_DFA_ok {s : St} {P : Nat → Prop} {k : Nat} {st : Int} {vF vN : Value} {F : List Bool} {R : List (List Int)} (hF : IsBools s P vF F) (hN : IsRows s P vN R) (hPN : ∀ A, P A → A < s.nextId) (hA : AutOk k st F R) (hn : F.length ≤ 1000000) (hk : 1 ≤ k ∧ k ≤ 6) :
    Wf kprog n_machine_DFA [.agg ⟨[.int .i64 ((k : Nat) : Int), .int .i64 st, vF, vN]⟩] s (fun v s' => ∃ t, Minimal k (faOf st F R) t ∧ AutOk k 0 t.1 (encT t.2) ∧
      ((512 < t.1.length ∧ v = .tuple ⟨[.agg ⟨[.int .i64 0, .int .i64 0, .slice none 0 0, .slice none 0 0]⟩, .int .i64 3]⟩ ∧ Pur s s') ∨
       (t.1.length ≤ 512 ∧ ∃ vF' vN' vs' G, v = .tuple ⟨[.agg ⟨[.int .i64 ((k : Nat) : Int), .int .i64 0, vF', vN']⟩, .int .i64 0]⟩ ∧ New s s' [Item.lst 1 vF' (enB t.1), Item.rows vN' vs' (encT t.2) G]))) := by
  have H := Hs.start s
  have hst0 := hA.st
  refine Wf.of p_machine_DFA rfl ?_
  unfold c_machine_DFA
  refine Wc.seq ?_; refine Wc.reg ?_; refine Wo.boxH H (by conv => lhs; whnf) ?_; intro sB1 H nB1; refine Wo.allocH H ?_; intro sB2 H nB2; refine Wo.op (Step.move (by conv => lhs; whnf)) ?_; refine Wo.nil ?_; refine Wc.seq ?_; refine Wc.reg ?_; refine Wo.op (Step.loadN rfl (H.row 0 rfl) (by rfl)) ?_
  -- call machine_Minimal
  refine Wo.call (Wf.mono (machine_Minimal_ok (hF.at H hPN) (hN.at H hPN) (fun A hA => by have := hPN A hA; omega) hA hn (by omega)) ?_)
  rintro _ s3 ⟨vF', vN', vs', G, t, hmin, hA2, hle, rfl, hnew⟩
  have H := H.adds hnew
  have hst := hA2.st
  have hRl := hA2.len
  refine Wo.storeH H 0 rfl rfl (by conv => lhs; whnf) (by rfl) (ones_cons (by rfl) (ones_cons (by rfl) (ones_cons (Sl.one (H.bools 2 rfl)) (ones_cons (Sl.one (H.rsl 3 rfl)) (rfl))))) (by rfl) ?_; intro sS0 H nS0; refine Wo.nil ?_; refine Wc.seq ?_; refine Wc.draw ?_; refine Wd.pure rfl (Step.faddr rfl) ?_; refine Wd.read rfl (Step.load rfl (H.row 0 rfl) (by rfl)) ?_; refine Wd.pure rfl (Step.faddr rfl) ?_; refine Wd.read rfl (Step.load rfl (H.row 0 rfl) (by rfl)) ?_; refine Wd.pure rfl (Step.faddr rfl) ?_; refine Wd.read rfl (Step.load rfl (H.row 0 rfl) (by rfl)) ?_; refine Wd.allocH H (fun s' hp => by have H := H.pur hp; exact ⟨fun _ => reread rfl (H.row 0 rfl) (by rfl) (Sl.veq (H.bools 2 rfl)), fun _ => reread rfl (H.row 0 rfl) (by rfl) (veq_int _ _), fun _ => reread rfl (H.row 0 rfl) (by rfl) (veq_int _ _), trivial⟩) ?_; intro sB4 oB4 cB4 H nB4; refine Wd.appNil H rfl rfl (H.bools 2 rfl) (by omega) (ones_enB _) (by first | omega | (simp only [List.length_map]; omega)) ?_; intro v16 sA16 cA16 H nA16; refine ⟨⟨fun _ => ⟨_, (cA16.2 _ (by omega) (fun h => h)).trans oB4, by rfl⟩, fun h => absurd h (by omega), fun _ => reread rfl (H.row 0 rfl) (by rfl) (veq_int _ _), fun _ => reread rfl (H.row 0 rfl) (by rfl) (veq_int _ _), trivial⟩, ?_⟩; refine Wd.pure rfl (Step.buildF (Fill.cons (by conv => lhs; whnf) (by rfl) (by rfl) (by rfl) (Fill.cons (by conv => lhs; whnf) (by rfl) (by rfl) (by rfl) (Fill.cons (by conv => lhs; whnf) (Sl.cellE (H.bools 5 rfl) rfl) (by rfl) (by rfl) (Fill.nil _))))) ?_; refine Wd.storeH H 4 rfl rfl (by conv => lhs; whnf) (by rfl) (ones_cons (by rfl) (ones_cons (by rfl) (ones_cons (Sl.one (H.bools 5 rfl)) (ones_cons (by rfl) (rfl))))) (by rfl) ?_; intro sS1 H nS1; refine ⟨⟨fun h => absurd h (by omega), fun h => absurd h (by omega), fun h => absurd h (by omega), fun h => absurd h (by omega), trivial⟩, ?_⟩
  have H := H.addRows
  refine Wd.nil ?_; refine Wc.seq ?_; refine Wc.seq ?_; refine Wc.reg ?_; refine Wo.op (Step.faddr rfl) ?_; refine Wo.op (Step.load rfl (H.row 0 rfl) (by rfl)) ?_; refine Wo.op (Step.lenSl rfl (H.rsl 3 rfl)) ?_; refine Wo.op (Step.gtr (b := 512) rfl rfl) ?_; refine Wo.nil ?_; refine Wc.ite rfl (fun hc21 => ?_) (fun hc21 => ?_)
  · refine Wc.seq ?_; refine Wc.reg ?_; refine Wo.op (Step.buildF (Fill.nil _)) ?_; refine Wo.storeH H 1 rfl rfl (by conv => lhs; whnf) (by rfl) (ones_cons (by rfl) (ones_cons (by rfl) (ones_cons (by rfl) (ones_cons (by rfl) (rfl))))) (by rfl) ?_; intro sS2 H nS2; refine Wo.op (Step.move (by conv => lhs; whnf)) ?_; refine Wo.nil ?_; refine Wc.ret ⟨_, Rs.cells rfl (Row.cells (H.row 1 rfl)) (by rfl) (Rs.tmp (by conv => lhs; whnf) (Rs.nil)), ?_⟩
    exact ⟨t, hmin, hA2, .inl ⟨by omega, rfl, H.topur⟩⟩
  · refine Wc.skip ?_; refine Wc.seq ?_; refine Wc.seq ?_; refine Wc.reg ?_; refine Wo.op (Step.faddr rfl) ?_; refine Wo.op (Step.load rfl (H.row 0 rfl) (by rfl)) ?_; refine Wo.op (Step.lenSl rfl (H.rsl 3 rfl)) ?_; refine Wo.op (Step.move (by conv => lhs; whnf)) ?_; refine Wo.nil ?_; refine Wc.mid (fun ρ' s' => ∃ (vN2 : Value) (vs2 : List Value) (G2 : List Nat), (ρ' 1 = ptrV s.nextId 0) ∧ (ρ' 2 = ptrV sB1.nextId 0) ∧ (ρ' 4 = ptrV sS0.nextId 0) ∧ (Hs s.nextId s s' [Item.own s.nextId 0 [.int .i64 ((k : Nat) : Int), .int .i64 0, vF', vN'], Item.own sB1.nextId 0 [.int .i64 (.ofNat 0), .int .i64 (.ofNat 0), .slice none 0 0, .slice none 0 0], Item.lst 1 vF' (enB t.1), Item.rows vN' vs' (encT t.2) G, Item.own sS0.nextId 0 [.int .i64 ((k : Nat) : Int), .int .i64 0, v16, vN2], Item.lst 1 v16 (enB t.1), Item.rows vN2 vs2 (encT t.2) G2])) (Wc.block (Wc.loop (fun m ρ' s' => ∃ (i : Nat) (vN2 : Value) (vs2 : List Value) (G2 : List Nat), (ρ' 1 = ptrV s.nextId 0) ∧ (ρ' 2 = ptrV sB1.nextId 0) ∧ (ρ' 4 = ptrV sS0.nextId 0) ∧ (ρ' 24 = vN') ∧ (ρ' 25 = .int .i64 (((encT t.2).length : Nat) : Int)) ∧ (ρ' 26 = .int .i64 ((i : Nat) : Int)) ∧ m = (encT t.2).length - i ∧ (Hs s.nextId s s' [Item.own s.nextId 0 [.int .i64 ((k : Nat) : Int), .int .i64 0, vF', vN'], Item.own sB1.nextId 0 [.int .i64 (.ofNat 0), .int .i64 (.ofNat 0), .slice none 0 0, .slice none 0 0], Item.lst 1 vF' (enB t.1), Item.rows vN' vs' (encT t.2) G, Item.own sS0.nextId 0 [.int .i64 ((k : Nat) : Int), .int .i64 0, v16, vN2], Item.lst 1 v16 (enB t.1), Item.rows vN2 vs2 ((encT t.2).take i) G2]) ∧ (i ≤ (encT t.2).length)) ?_ ?_)) ?_
    · exact ⟨_, 0, .slice none 0 0, [], [], rfl, rfl, rfl, rfl, rfl, rfl, rfl, H, by omega⟩
    · intro m0 ρ0 s0 hI
      obtain ⟨i, vN2, vs2, G2, e1, e2, e4, e24, e25, e26, hm0, H, hi⟩ := hI
      refine Wc.fix (k := 1) e1 ?_; refine Wc.fix (k := 2) e2 ?_; refine Wc.fix (k := 4) e4 ?_; refine Wc.fix (k := 24) e24 ?_; refine Wc.fix (k := 25) e25 ?_; refine Wc.fix (k := 26) e26 ?_; refine Wc.seq ?_; refine Wc.reg ?_; refine Wo.op (Step.lss rfl rfl) ?_; refine Wo.nil ?_; refine Wc.seq ?_; refine Wc.ite rfl (fun hc27 => ?_) (fun hc27 => ?_)
      · refine Wc.skip ?_; refine Wc.seq ?_; refine Wc.block ?_; refine Wc.seq ?_; refine Wc.reg ?_; refine Wo.idxRH H 3 rfl rfl rfl (by omega) (by omega) ?_; intro p28 u29 hu29; refine Wo.op (Step.move (by conv => lhs; whnf)) ?_; refine Wo.nil ?_; refine Wc.draw ?_; refine Wd.pure rfl (Step.faddr rfl) ?_; refine Wd.read rfl (Step.load rfl (H.row 4 rfl) (by rfl)) ?_; refine Wd.pure rfl (Step.move (by conv => lhs; whnf)) ?_
        have hrw := (hA2.row _ (getr_mem (R := encT t.2) (q := ((i : Nat) : Int)) (by omega) (by omega))).1
        refine Wd.appNil H rfl rfl (hu29 H rfl) (by omega) (ones_enI _) (by first | omega | (simp only [List.length_map]; omega)) ?_; intro v33 sA33 cA33 H nA33; refine ⟨⟨fun _ => reread rfl (H.row 4 rfl) (by rfl) (Sl.veq (H.rsl 6 rfl)), trivial⟩, ?_⟩; refine Wd.appRowH H 6 7 (by decide) rfl (by rfl) (H.ints 7 rfl) rfl (by rfl) (by rfl) (by simp) (by omega) (by first | omega | (simp only [List.length_map, List.length_take]; omega) | (simp [rowF, rowP, atF, ordI, preI]; omega)) (fun s' hp => by have H := H.pur hp; exact ⟨fun _ => reread rfl (H.row 4 rfl) (by rfl) (Sl.veq (H.rsl 6 rfl)), trivial⟩) ?_; intro p34 v35 sA35 F35 H nA35; refine ⟨⟨fun h => absurd h (by omega), trivial⟩, ?_⟩; refine Wd.pure rfl (Step.faddr rfl) ?_; refine Wd.storeH H 4 rfl rfl (Sl.cellE (H.rsl 6 rfl) rfl) (by rfl) (Sl.one (H.rsl 6 rfl)) (by rfl) ?_; intro sS3 H nS3; refine ⟨⟨by omega, fun h => absurd h (by omega), trivial⟩, ?_⟩; refine Wd.nil ?_; refine Wc.reg ?_; refine Wo.op (Step.add (b := 1) rfl rfl (by omega)) ?_; refine Wo.op (Step.move (by conv => lhs; whnf)) ?_; refine Wo.nil ?_; refine ⟨_, ?_, i + 1, _, _, _, rfl, rfl, rfl, rfl, rfl, rfl, rfl, by rw [take_getr (by omega)]; exact H.take 7, by omega⟩
        omega
      · refine Wc.exit ?_; refine .inl ⟨rfl, ?_⟩
        exact ⟨_, _, _, rfl, rfl, rfl, by rw [List.take_of_length_le (by omega)] at H; exact H⟩
    · intro ρx0 sx0 hP
      obtain ⟨vN2, vs2, G2, e1, e2, e4, H⟩ := hP
      show Wc _ _ _ _ _ _ _
      refine Wc.fix (k := 1) e1 ?_; refine Wc.fix (k := 2) e2 ?_; refine Wc.fix (k := 4) e4 ?_; refine Wc.seq ?_; refine Wc.seq ?_; refine Wc.reg ?_; refine Wo.op (Step.loadN rfl (H.row 4 rfl) (by rfl)) ?_
      -- call dfa_Validate
      refine Wo.call (Wf.mono (dfa_Validate_ok (P := fun A => A < sx0.nextId) ((H.bools 5 rfl).mono (fun A h _ => h)) ((H.rows 6 rfl).mono (fun A h _ => h)) (fun A h => h) (by omega) (by omega) (fun r hr => by have := (hA2.row r hr).1; omega)) ?_)
      rintro _ s5 ⟨rfl, c5⟩
      have H := H.pur c5
      rw [validD_ok hA2 hk (by omega)]
      refine Wo.op (Step.move (by conv => lhs; whnf)) ?_; refine Wo.nil ?_; refine Wc.seq ?_; refine Wc.reg ?_; refine Wo.op (Step.move (by conv => lhs; whnf)) ?_; refine Wo.op (Step.neq (b := 0) rfl rfl) ?_; refine Wo.nil ?_; refine Wc.ite rfl (fun hc41 => ?_) (fun hc41 => ?_)
      · exact absurd rfl hc41
      · refine Wc.skip ?_; refine Wc.seq ?_; refine Wc.reg ?_; refine Wo.op (Step.loadN rfl (H.row 4 rfl) (by rfl)) ?_; refine Wo.storeH H 1 rfl rfl (by conv => lhs; whnf) (by rfl) (ones_cons (by rfl) (ones_cons (by rfl) (ones_cons (Sl.one (H.bools 5 rfl)) (ones_cons (Sl.one (H.rsl 6 rfl)) (rfl))))) (by rfl) ?_; intro sS4 H nS4; refine Wo.op (Step.move (by conv => lhs; whnf)) ?_; refine Wo.nil ?_; refine Wc.ret ⟨_, Rs.cells rfl (Row.cells (H.row 1 rfl)) (by rfl) (Rs.tmp (by conv => lhs; whnf) (Rs.nil)), ?_⟩
        exact ⟨t, hmin, hA2, .inr ⟨by omega, _, _, _, _, rfl, H.new2 5 6 (by decide) rfl rfl⟩⟩
end Go.EvK
end

section
set_option linter.unusedVariables false
set_option maxRecDepth 100000
set_option maxHeartbeats 4000000
namespace Go.EvK
open Go Go.Ev Go.EvW Go.Co Go.Aut
theorem ref01_MayLetters_ok {s : St} {x : Int} : Wf kprog n_ref01_MayLetters [.int .i64 x] s (fun v s' => v = .bool (decide (1 ≤ x ∧ x ≤ 6)) ∧ s = s') := by
  have H := Hs.start s
  refine Wf.of p_ref01_MayLetters rfl ?_
  unfold c_ref01_MayLetters
  refine Wc.seq ?_; refine Wc.reg ?_; refine Wo.op (Step.move (by conv => lhs; whnf)) ?_; refine Wo.nil ?_; refine Wc.seq ?_; refine Wc.reg ?_; refine Wo.op (Step.move (by conv => lhs; whnf)) ?_; refine Wo.op (Step.geq (b := 1) rfl rfl) ?_; refine Wo.op (Step.move (by conv => lhs; whnf)) ?_; refine Wo.cases (j := 5) rfl (fun hc5 => ?_) (fun hc5 => ?_)
  · refine Wo.on rfl ?_; refine Wo.op (Step.move (by conv => lhs; whnf)) ?_; refine Wo.on rfl ?_; refine Wo.op (Step.leq (b := 6) rfl rfl) ?_; refine Wo.op (Step.pickT rfl (by conv => lhs; whnf)) ?_; refine Wo.op (Step.move (by conv => lhs; whnf)) ?_; refine Wo.nil ?_; refine Wc.ret ⟨_, Rs.tmp (by conv => lhs; whnf) (Rs.nil), ?_⟩
    exact ⟨congrArg Value.bool (by show decide (x ≤ 6) = _; simp [hc5]), rfl⟩
  · refine Wo.off rfl rfl ?_; refine Wo.off rfl rfl ?_; refine Wo.op (Step.pickF rfl (by conv => lhs; whnf)) ?_; refine Wo.op (Step.move (by conv => lhs; whnf)) ?_; refine Wo.nil ?_; refine Wc.ret ⟨_, Rs.tmp (by conv => lhs; whnf) (Rs.nil), ?_⟩
    exact ⟨congrArg Value.bool (decide_eq_false (by omega)).symm, rfl⟩
theorem ref01_Valid_ok {s : St} {w : List UInt8} {k : Int} (hk : -9223372036854775808 ≤ k ∧ k < 9223372036854775808) (hw : w.length < 9223372036854775807) :
    Wf kprog n_ref01_Valid [.string ⟨⟨w⟩⟩, .int .i64 k] s (fun v s' => v = .bool (decide (WordOk w k)) ∧ s = s') := by
  have H := Hs.start s
  refine Wf.of p_ref01_Valid rfl ?_
  unfold c_ref01_Valid
  refine Wc.seq ?_; refine Wc.reg ?_; refine Wo.op (Step.move (by conv => lhs; whnf)) ?_; refine Wo.nil ?_; refine Wc.seq ?_; refine Wc.seq ?_; refine Wc.reg ?_; refine Wo.op (Step.move (by conv => lhs; whnf)) ?_
  -- call ref01_MayLetters
  refine Wo.call (Wf.mono ref01_MayLetters_ok ?_)
  rintro _ _ ⟨rfl, rfl⟩
  refine Wo.op (Step.notD rfl) ?_; refine Wo.op (Step.move (by conv => lhs; whnf)) ?_; refine Wo.cases (j := 9) rfl (fun hc9 => ?_) (fun hc9 => ?_)
  · refine Wo.off rfl rfl ?_; refine Wo.off rfl rfl ?_; refine Wo.off rfl rfl ?_; refine Wo.op (Step.pickT rfl (by conv => lhs; whnf)) ?_; refine Wo.nil ?_; refine Wc.yes rfl ?_; refine Wc.seq ?_; refine Wc.reg ?_; refine Wo.op (Step.move (by conv => lhs; whnf)) ?_; refine Wo.nil ?_; refine Wc.ret ⟨_, Rs.tmp (by conv => lhs; whnf) (Rs.nil), ?_⟩
    exact ⟨congrArg Value.bool (decide_eq_false (fun h => hc9 ⟨h.1, h.2.1⟩)).symm, rfl⟩
  · have hc9 : 1 ≤ k ∧ k ≤ 6 := Classical.byContradiction hc9
    refine Wo.on rfl ?_; refine Wo.op (Step.move (by conv => lhs; whnf)) ?_; refine Wo.on rfl ?_; refine Wo.op (Step.lenStrG rfl) ?_; refine Wo.on rfl ?_; refine Wo.op (Step.gtr (b := 2048) rfl rfl) ?_; refine Wo.op (Step.pickF rfl (by conv => lhs; whnf)) ?_; refine Wo.nil ?_; refine Wc.ite rfl (fun hc13 => ?_) (fun hc13 => ?_)
    · refine Wc.seq ?_; refine Wc.reg ?_; refine Wo.op (Step.move (by conv => lhs; whnf)) ?_; refine Wo.nil ?_; refine Wc.ret ⟨_, Rs.tmp (by conv => lhs; whnf) (Rs.nil), ?_⟩
      exact ⟨congrArg Value.bool (decide_eq_false (fun h => by have := h.2.2.1; omega)).symm, rfl⟩
    · refine Wc.skip ?_; refine Wc.seq ?_; refine Wc.seq ?_; refine Wc.reg ?_; refine Wo.op (Step.move (by conv => lhs; whnf)) ?_; refine Wo.nil ?_; refine Wc.mid (fun ρ' s' => (s' = s) ∧ (WordOk w k)) (Wc.block (Wc.loop (fun m ρ' s' => ∃ (i : Nat), (ρ' 0 = .string ⟨⟨w⟩⟩) ∧ (ρ' 1 = .int .i64 k) ∧ (ρ' 5 = .int .i64 ((i : Nat) : Int)) ∧ m = w.length - i ∧ (s' = s) ∧ (i ≤ w.length) ∧ (∀ c ∈ w.take i, 97 ≤ c.toNat ∧ (c.toNat : Int) - 97 < k)) ?_ ?_)) ?_
      · exact ⟨_, 0, rfl, rfl, rfl, rfl, rfl, by omega, by simp⟩
      · intro m0 ρ0 s0 hI
        obtain ⟨i, e0, e1, e5, hm0, hs, hi, hz⟩ := hI
        refine Wc.fix (k := 0) e0 ?_; refine Wc.fix (k := 1) e1 ?_; refine Wc.fix (k := 5) e5 ?_
        subst hs
        have hg1 := getu_lt w i
        refine Wc.seq ?_; refine Wc.seq ?_; refine Wc.reg ?_; refine Wo.op (Step.move (by conv => lhs; whnf)) ?_; refine Wo.op (Step.move (by conv => lhs; whnf)) ?_; refine Wo.op (Step.lenStrG rfl) ?_; refine Wo.op (Step.lss rfl rfl) ?_; refine Wo.nil ?_; refine Wc.ite rfl (fun hc17 => ?_) (fun hc17 => ?_)
        · refine Wc.skip ?_; refine Wc.seq ?_; refine Wc.block ?_; refine Wc.seq ?_; refine Wc.reg ?_; refine Wo.op (Step.move (by conv => lhs; whnf)) ?_; refine Wo.op (Step.move (by conv => lhs; whnf)) ?_; refine Wo.op (Step.idxStrG rfl rfl (by omega) (by omega)) ?_; refine Wo.op (Step.lss (b := 97) rfl rfl) ?_; refine Wo.op (Step.move (by conv => lhs; whnf)) ?_; refine Wo.cases (j := 24) rfl (fun hc24 => ?_) (fun hc24 => ?_)
          · refine Wo.off rfl rfl ?_; refine Wo.off rfl rfl ?_; refine Wo.off rfl rfl ?_; refine Wo.off rfl rfl ?_; refine Wo.off rfl rfl ?_; refine Wo.off rfl rfl ?_; refine Wo.off rfl rfl ?_; refine Wo.op (Step.pickT rfl (by conv => lhs; whnf)) ?_; refine Wo.nil ?_; refine Wc.yes rfl ?_; refine Wc.seq ?_; refine Wc.reg ?_; refine Wo.op (Step.move (by conv => lhs; whnf)) ?_; refine Wo.nil ?_; refine Wc.ret ⟨_, Rs.tmp (by conv => lhs; whnf) (Rs.nil), ?_⟩
            exact ⟨congrArg Value.bool (decide_eq_false (fun h => by have := h.2.2.2 _ (getu_mem (i := i) (by omega) (by omega)); omega)).symm, rfl⟩
          · refine Wo.on rfl ?_; refine Wo.op (Step.move (by conv => lhs; whnf)) ?_; refine Wo.on rfl ?_; refine Wo.op (Step.move (by conv => lhs; whnf)) ?_; refine Wo.on rfl ?_; refine Wo.op (Step.idxStrG rfl rfl (by omega) (by omega)) ?_; refine Wo.on rfl ?_; refine Wo.op (Step.sub8 (b := 97) rfl rfl (by omega)) ?_; refine Wo.on rfl ?_; refine Wo.op (Step.conv64 rfl (by omega)) ?_; refine Wo.on rfl ?_; refine Wo.op (Step.move (by conv => lhs; whnf)) ?_; refine Wo.on rfl ?_; refine Wo.op (Step.geq rfl rfl) ?_; refine Wo.op (Step.pickF rfl (by conv => lhs; whnf)) ?_; refine Wo.nil ?_; refine Wc.ite rfl (fun hc32 => ?_) (fun hc32 => ?_)
            · refine Wc.seq ?_; refine Wc.reg ?_; refine Wo.op (Step.move (by conv => lhs; whnf)) ?_; refine Wo.nil ?_; refine Wc.ret ⟨_, Rs.tmp (by conv => lhs; whnf) (Rs.nil), ?_⟩
              exact ⟨congrArg Value.bool (decide_eq_false (fun h => by have := h.2.2.2 _ (getu_mem (i := i) (by omega) (by omega)); omega)).symm, rfl⟩
            · refine Wc.skip ?_; refine Wc.reg ?_; refine Wo.op (Step.move (by conv => lhs; whnf)) ?_; refine Wo.op (Step.add (b := 1) rfl rfl (by omega)) ?_; refine Wo.op (Step.move (by conv => lhs; whnf)) ?_; refine Wo.nil ?_; refine ⟨_, ?_, i + 1, rfl, rfl, rfl, rfl, rfl, by omega, by intro c hc; rw [take_getu (by omega), List.mem_append, List.mem_singleton] at hc; rcases hc with hc | rfl; exact hz c hc; omega⟩
              omega
        · refine Wc.exit ?_; refine .inl ⟨rfl, ?_⟩
          exact ⟨rfl, ⟨by omega, by omega, by omega, by rw [List.take_of_length_le (by omega)] at hz; exact hz⟩⟩
      · intro ρx0 sx0 hP
        obtain ⟨hs, hz⟩ := hP
        show Wc _ _ _ _ _ _ _
        subst hs
        refine Wc.seq ?_; refine Wc.reg ?_; refine Wo.op (Step.move (by conv => lhs; whnf)) ?_; refine Wo.nil ?_; refine Wc.ret ⟨_, Rs.tmp (by conv => lhs; whnf) (Rs.nil), ?_⟩
        exact ⟨congrArg Value.bool (decide_eq_true hz).symm, rfl⟩
theorem ref03_Same_ok {s : St} {P P' : Nat → Prop} {vx vy : Value} {xs ys : List Int} (hx : IsInts s P vx xs) (hy : IsInts s P' vy ys) (hl : xs.length < 9223372036854775807) (hl' : ys.length < 9223372036854775807) :
    Wf kprog n_ref03_Same [vx, vy] s (fun v s' => v = .bool (decide (xs = ys)) ∧ s = s') := by
  have H := Hs.start s
  refine Wf.of p_ref03_Same rfl ?_
  unfold c_ref03_Same
  refine Wc.seq ?_; refine Wc.reg ?_; refine Wo.op (Step.move (by conv => lhs; whnf)) ?_; refine Wo.nil ?_; refine Wc.seq ?_; refine Wc.seq ?_; refine Wc.reg ?_; refine Wo.op (Step.move (by conv => lhs; whnf)) ?_; refine Wo.op (Step.lenSl rfl hx) ?_; refine Wo.op (Step.move (by conv => lhs; whnf)) ?_; refine Wo.op (Step.lenSl rfl hy) ?_; refine Wo.op (Step.neq rfl rfl) ?_; refine Wo.nil ?_; refine Wc.ite rfl (fun hc10 => ?_) (fun hc10 => ?_)
  · refine Wc.seq ?_; refine Wc.reg ?_; refine Wo.op (Step.move (by conv => lhs; whnf)) ?_; refine Wo.nil ?_; refine Wc.ret ⟨_, Rs.tmp (by conv => lhs; whnf) (Rs.nil), ?_⟩
    exact ⟨congrArg Value.bool (decide_eq_false (fun h => by subst h; omega)).symm, rfl⟩
  · refine Wc.skip ?_; refine Wc.seq ?_; refine Wc.seq ?_; refine Wc.reg ?_; refine Wo.op (Step.move (by conv => lhs; whnf)) ?_; refine Wo.op (Step.lenSl rfl hx) ?_; refine Wo.op (Step.move (by conv => lhs; whnf)) ?_; refine Wo.nil ?_; refine Wc.mid (fun ρ' s' => (s' = s) ∧ (xs = ys)) (Wc.block (Wc.loop (fun m ρ' s' => ∃ (i : Nat), (ρ' 0 = vx) ∧ (ρ' 1 = vy) ∧ (ρ' 12 = .int .i64 ((xs.length : Nat) : Int)) ∧ (ρ' 13 = .int .i64 ((i : Nat) : Int)) ∧ m = xs.length - i ∧ (s' = s) ∧ (i ≤ xs.length) ∧ (xs.take i = ys.take i)) ?_ ?_)) ?_
    · exact ⟨_, 0, rfl, rfl, rfl, rfl, rfl, rfl, by omega, by simp⟩
    · intro m0 ρ0 s0 hI
      obtain ⟨i, e0, e1, e12, e13, hm0, hs, hi, hz⟩ := hI
      refine Wc.fix (k := 0) e0 ?_; refine Wc.fix (k := 1) e1 ?_; refine Wc.fix (k := 12) e12 ?_; refine Wc.fix (k := 13) e13 ?_
      subst hs
      refine Wc.seq ?_; refine Wc.reg ?_; refine Wo.op (Step.lss rfl rfl) ?_; refine Wo.nil ?_; refine Wc.seq ?_; refine Wc.ite rfl (fun hc14 => ?_) (fun hc14 => ?_)
      · refine Wc.skip ?_; refine Wc.seq ?_; refine Wc.block ?_; refine Wc.seq ?_; refine Wc.reg ?_; refine Wo.op (Step.move (by conv => lhs; whnf)) ?_; refine Wo.op (Step.move (by conv => lhs; whnf)) ?_; refine Wo.nil ?_; refine Wc.seq ?_; refine Wc.draw ?_; refine Wd.pure rfl (Step.move (by conv => lhs; whnf)) ?_; refine Wd.pure rfl (Step.move (by conv => lhs; whnf)) ?_; refine Wd.idxI rfl hx rfl (by omega) (by omega) ?_; intro p18; refine Wd.pure rfl (Step.move (by conv => lhs; whnf)) ?_; refine Wd.pure rfl (Step.move (by conv => lhs; whnf)) ?_; refine Wd.idxI rfl hy rfl (by omega) (by omega) ?_; intro p22; refine Wd.pure rfl (Step.neq rfl rfl) ?_; refine Wd.nil ?_; refine Wc.ite rfl (fun hc24 => ?_) (fun hc24 => ?_)
        · refine Wc.seq ?_; refine Wc.reg ?_; refine Wo.op (Step.move (by conv => lhs; whnf)) ?_; refine Wo.nil ?_; refine Wc.ret ⟨_, Rs.tmp (by conv => lhs; whnf) (Rs.nil), ?_⟩
          exact ⟨congrArg Value.bool (decide_eq_false (fun h => by subst h; omega)).symm, rfl⟩
        · refine Wc.skip ?_; refine Wc.reg ?_; refine Wo.op (Step.add (b := 1) rfl rfl (by omega)) ?_; refine Wo.op (Step.move (by conv => lhs; whnf)) ?_; refine Wo.nil ?_; refine ⟨_, ?_, i + 1, rfl, rfl, rfl, rfl, rfl, rfl, by omega, by rw [take_geti (by omega), take_geti (xs := ys) (by omega), hz]; congr 2; omega⟩
          omega
      · refine Wc.exit ?_; refine .inl ⟨rfl, ?_⟩
        exact ⟨rfl, by rw [List.take_of_length_le (by omega), List.take_of_length_le (by omega)] at hz; exact hz⟩
    · intro ρx0 sx0 hP
      obtain ⟨hs, hz⟩ := hP
      show Wc _ _ _ _ _ _ _
      subst hs
      refine Wc.seq ?_; refine Wc.reg ?_; refine Wo.op (Step.move (by conv => lhs; whnf)) ?_; refine Wo.nil ?_; refine Wc.ret ⟨_, Rs.tmp (by conv => lhs; whnf) (Rs.nil), ?_⟩
      exact ⟨congrArg Value.bool (decide_eq_true hz).symm, rfl⟩
theorem ref07_Same_ok {s : St} {P : Nat → Prop} {L st L2 st2 : Int} {vF vN vF2 vN2 : Value} {F F2 : List Bool} {R R2 : List (List Int)} (hF : IsBools s P vF F) (hN : IsRows s P vN R) (hF2 : IsBools s P vF2 F2) (hN2 : IsRows s P vN2 R2) (hPN : ∀ A, P A → A < s.nextId)
    (b1 : F.length < 9223372036854775807) (b2 : R.length < 9223372036854775807) (b3 : ∀ r, r ∈ R → r.length < 9223372036854775807) :
    Wf kprog n_ref07_Same [.agg ⟨[.int .i64 L, .int .i64 st, vF, vN]⟩, .agg ⟨[.int .i64 L2, .int .i64 st2, vF2, vN2]⟩] s (fun v s' => v = .bool (decide (L = L2 ∧ st = st2 ∧ F = F2 ∧ R = R2)) ∧ Pur s s') := by
  have H := Hs.start s
  refine Wf.of p_ref07_Same rfl ?_
  unfold c_ref07_Same
  refine Wc.seq ?_; refine Wc.reg ?_; refine Wo.boxH H (by conv => lhs; whnf) ?_; intro sB2 H nB2; refine Wo.boxH H (by conv => lhs; whnf) ?_; intro sB3 H nB3; refine Wo.op (Step.move (by conv => lhs; whnf)) ?_; refine Wo.nil ?_; refine Wc.seq ?_; refine Wc.seq ?_; refine Wc.reg ?_; refine Wo.op (Step.faddr rfl) ?_; refine Wo.op (Step.load rfl (H.row 0 rfl) (by rfl)) ?_; refine Wo.op (Step.faddr rfl) ?_; refine Wo.op (Step.load rfl (H.row 1 rfl) (by rfl)) ?_; refine Wo.op (Step.neq rfl rfl) ?_; refine Wo.op (Step.move (by conv => lhs; whnf)) ?_; refine Wo.cases (j := 13) rfl (fun hc13 => ?_) (fun hc13 => ?_)
  · refine Wo.off rfl rfl ?_; refine Wo.off rfl rfl ?_; refine Wo.off rfl rfl ?_; refine Wo.off rfl rfl ?_; refine Wo.off rfl rfl ?_; refine Wo.op (Step.pickT rfl (by conv => lhs; whnf)) ?_; refine Wo.op (Step.move (by conv => lhs; whnf)) ?_; refine Wo.off rfl rfl ?_; refine Wo.off rfl rfl ?_; refine Wo.off rfl rfl ?_; refine Wo.off rfl rfl ?_; refine Wo.off rfl rfl ?_; refine Wo.off rfl rfl ?_; refine Wo.off rfl rfl ?_; refine Wo.op (Step.pickT rfl (by conv => lhs; whnf)) ?_; refine Wo.op (Step.move (by conv => lhs; whnf)) ?_; refine Wo.off rfl rfl ?_; refine Wo.off rfl rfl ?_; refine Wo.off rfl rfl ?_; refine Wo.off rfl rfl ?_; refine Wo.off rfl rfl ?_; refine Wo.off rfl rfl ?_; refine Wo.off rfl rfl ?_; refine Wo.op (Step.pickT rfl (by conv => lhs; whnf)) ?_; refine Wo.nil ?_; refine Wc.yes rfl ?_; refine Wc.seq ?_; refine Wc.reg ?_; refine Wo.op (Step.move (by conv => lhs; whnf)) ?_; refine Wo.nil ?_; refine Wc.ret ⟨_, Rs.tmp (by conv => lhs; whnf) (Rs.nil), ?_⟩
    exact ⟨congrArg Value.bool (decide_eq_false (fun h => by obtain ⟨rfl, rfl, rfl, rfl⟩ := h; omega)).symm, H.topur⟩
  · refine Wo.on rfl ?_; refine Wo.op (Step.faddr rfl) ?_; refine Wo.on rfl ?_; refine Wo.op (Step.load rfl (H.row 0 rfl) (by rfl)) ?_; refine Wo.on rfl ?_; refine Wo.op (Step.faddr rfl) ?_; refine Wo.on rfl ?_; refine Wo.op (Step.load rfl (H.row 1 rfl) (by rfl)) ?_; refine Wo.on rfl ?_; refine Wo.op (Step.neq rfl rfl) ?_; refine Wo.op (Step.pickF rfl (by conv => lhs; whnf)) ?_; refine Wo.op (Step.move (by conv => lhs; whnf)) ?_; refine Wo.cases (j := 20) rfl (fun hc20 => ?_) (fun hc20 => ?_)
    · refine Wo.off rfl rfl ?_; refine Wo.off rfl rfl ?_; refine Wo.off rfl rfl ?_; refine Wo.off rfl rfl ?_; refine Wo.off rfl rfl ?_; refine Wo.off rfl rfl ?_; refine Wo.off rfl rfl ?_; refine Wo.op (Step.pickT rfl (by conv => lhs; whnf)) ?_; refine Wo.op (Step.move (by conv => lhs; whnf)) ?_; refine Wo.off rfl rfl ?_; refine Wo.off rfl rfl ?_; refine Wo.off rfl rfl ?_; refine Wo.off rfl rfl ?_; refine Wo.off rfl rfl ?_; refine Wo.off rfl rfl ?_; refine Wo.off rfl rfl ?_; refine Wo.op (Step.pickT rfl (by conv => lhs; whnf)) ?_; refine Wo.nil ?_; refine Wc.yes rfl ?_; refine Wc.seq ?_; refine Wc.reg ?_; refine Wo.op (Step.move (by conv => lhs; whnf)) ?_; refine Wo.nil ?_; refine Wc.ret ⟨_, Rs.tmp (by conv => lhs; whnf) (Rs.nil), ?_⟩
      exact ⟨congrArg Value.bool (decide_eq_false (fun h => by obtain ⟨rfl, rfl, rfl, rfl⟩ := h; omega)).symm, H.topur⟩
    · refine Wo.on rfl ?_; refine Wo.op (Step.faddr rfl) ?_; refine Wo.on rfl ?_; refine Wo.op (Step.load rfl (H.row 0 rfl) (by rfl)) ?_; refine Wo.on rfl ?_; refine Wo.op (Step.lenSl rfl (hF.at H hPN)) ?_; refine Wo.on rfl ?_; refine Wo.op (Step.faddr rfl) ?_; refine Wo.on rfl ?_; refine Wo.op (Step.load rfl (H.row 1 rfl) (by rfl)) ?_; refine Wo.on rfl ?_; refine Wo.op (Step.lenSl rfl (hF2.at H hPN)) ?_; refine Wo.on rfl ?_; refine Wo.op (Step.neq rfl rfl) ?_; refine Wo.op (Step.pickF rfl (by conv => lhs; whnf)) ?_; refine Wo.op (Step.move (by conv => lhs; whnf)) ?_; refine Wo.cases (j := 29) rfl (fun hc29 => ?_) (fun hc29 => ?_)
      · refine Wo.off rfl rfl ?_; refine Wo.off rfl rfl ?_; refine Wo.off rfl rfl ?_; refine Wo.off rfl rfl ?_; refine Wo.off rfl rfl ?_; refine Wo.off rfl rfl ?_; refine Wo.off rfl rfl ?_; refine Wo.op (Step.pickT rfl (by conv => lhs; whnf)) ?_; refine Wo.nil ?_; refine Wc.yes rfl ?_; refine Wc.seq ?_; refine Wc.reg ?_; refine Wo.op (Step.move (by conv => lhs; whnf)) ?_; refine Wo.nil ?_; refine Wc.ret ⟨_, Rs.tmp (by conv => lhs; whnf) (Rs.nil), ?_⟩
        exact ⟨congrArg Value.bool (decide_eq_false (fun h => by obtain ⟨rfl, rfl, rfl, rfl⟩ := h; omega)).symm, H.topur⟩
      · refine Wo.on rfl ?_; refine Wo.op (Step.faddr rfl) ?_; refine Wo.on rfl ?_; refine Wo.op (Step.load rfl (H.row 0 rfl) (by rfl)) ?_; refine Wo.on rfl ?_; refine Wo.op (Step.lenRows rfl ((hN.at H hPN))) ?_; refine Wo.on rfl ?_; refine Wo.op (Step.faddr rfl) ?_; refine Wo.on rfl ?_; refine Wo.op (Step.load rfl (H.row 1 rfl) (by rfl)) ?_; refine Wo.on rfl ?_; refine Wo.op (Step.lenRows rfl ((hN2.at H hPN))) ?_; refine Wo.on rfl ?_; refine Wo.op (Step.neq rfl rfl) ?_; refine Wo.op (Step.pickF rfl (by conv => lhs; whnf)) ?_; refine Wo.nil ?_; refine Wc.ite rfl (fun hc37 => ?_) (fun hc37 => ?_)
        · refine Wc.seq ?_; refine Wc.reg ?_; refine Wo.op (Step.move (by conv => lhs; whnf)) ?_; refine Wo.nil ?_; refine Wc.ret ⟨_, Rs.tmp (by conv => lhs; whnf) (Rs.nil), ?_⟩
          exact ⟨congrArg Value.bool (decide_eq_false (fun h => by obtain ⟨rfl, rfl, rfl, rfl⟩ := h; omega)).symm, H.topur⟩
        · refine Wc.skip ?_; refine Wc.seq ?_; refine Wc.seq ?_; refine Wc.reg ?_; refine Wo.op (Step.faddr rfl) ?_; refine Wo.op (Step.load rfl (H.row 0 rfl) (by rfl)) ?_; refine Wo.op (Step.lenSl rfl (hF.at H hPN)) ?_; refine Wo.op (Step.move (by conv => lhs; whnf)) ?_; refine Wo.nil ?_; refine Wc.mid (fun ρ' s' => (ρ' 2 = ptrV s.nextId 0) ∧ (ρ' 3 = ptrV sB2.nextId 0) ∧ (Hs s.nextId s s' [Item.own s.nextId 0 [.int .i64 L, .int .i64 st, vF, vN], Item.own sB2.nextId 0 [.int .i64 L2, .int .i64 st2, vF2, vN2]]) ∧ (F = F2)) (Wc.block (Wc.loop (fun m ρ' s' => ∃ (i : Nat), (ρ' 2 = ptrV s.nextId 0) ∧ (ρ' 3 = ptrV sB2.nextId 0) ∧ (ρ' 40 = .int .i64 ((F.length : Nat) : Int)) ∧ (ρ' 41 = .int .i64 ((i : Nat) : Int)) ∧ m = F.length - i ∧ (Hs s.nextId s s' [Item.own s.nextId 0 [.int .i64 L, .int .i64 st, vF, vN], Item.own sB2.nextId 0 [.int .i64 L2, .int .i64 st2, vF2, vN2]]) ∧ (i ≤ F.length) ∧ (F.take i = F2.take i)) ?_ ?_)) ?_
          · exact ⟨_, 0, rfl, rfl, rfl, rfl, rfl, H, by omega, by simp⟩
          · intro m0 ρ0 s0 hI
            obtain ⟨i, e2, e3, e40, e41, hm0, H, hi, hz⟩ := hI
            refine Wc.fix (k := 2) e2 ?_; refine Wc.fix (k := 3) e3 ?_; refine Wc.fix (k := 40) e40 ?_; refine Wc.fix (k := 41) e41 ?_; refine Wc.seq ?_; refine Wc.reg ?_; refine Wo.op (Step.lss rfl rfl) ?_; refine Wo.nil ?_; refine Wc.seq ?_; refine Wc.ite rfl (fun hc42 => ?_) (fun hc42 => ?_)
            · refine Wc.skip ?_; refine Wc.seq ?_; refine Wc.block ?_; refine Wc.seq ?_; refine Wc.reg ?_; refine Wo.op (Step.move (by conv => lhs; whnf)) ?_; refine Wo.op (Step.move (by conv => lhs; whnf)) ?_; refine Wo.nil ?_; refine Wc.seq ?_; refine Wc.draw ?_; refine Wd.pure rfl (Step.faddr rfl) ?_; refine Wd.read rfl (Step.load rfl (H.row 0 rfl) (by rfl)) ?_; refine Wd.pure rfl (Step.move (by conv => lhs; whnf)) ?_; refine Wd.idxB rfl (hF.at H hPN) rfl (by omega) (by omega) ?_; intro p47; refine Wd.pure rfl (Step.faddr rfl) ?_; refine Wd.read rfl (Step.load rfl (H.row 1 rfl) (by rfl)) ?_; refine Wd.pure rfl (Step.move (by conv => lhs; whnf)) ?_; refine Wd.idxB rfl (hF2.at H hPN) rfl (by omega) (by omega) ?_; intro p52; refine Wd.pure rfl (Step.neB rfl rfl) ?_; refine Wd.nil ?_; refine Wc.ite rfl (fun hc54 => ?_) (fun hc54 => ?_)
              · refine Wc.seq ?_; refine Wc.reg ?_; refine Wo.op (Step.move (by conv => lhs; whnf)) ?_; refine Wo.nil ?_; refine Wc.ret ⟨_, Rs.tmp (by conv => lhs; whnf) (Rs.nil), ?_⟩
                exact ⟨congrArg Value.bool (decide_eq_false (fun h => by obtain ⟨rfl, rfl, rfl, rfl⟩ := h; exact hc54 rfl)).symm, H.topur⟩
              · refine Wc.skip ?_; refine Wc.reg ?_; refine Wo.op (Step.add (b := 1) rfl rfl (by omega)) ?_; refine Wo.op (Step.move (by conv => lhs; whnf)) ?_; refine Wo.nil ?_; refine ⟨_, ?_, i + 1, rfl, rfl, rfl, rfl, rfl, H, by omega, by rw [take_getb (by omega), take_getb (xs := F2) (by omega), hz]; congr 2; exact Classical.byContradiction hc54⟩
                omega
            · refine Wc.exit ?_; refine .inl ⟨rfl, ?_⟩
              exact ⟨rfl, rfl, H, by rw [List.take_of_length_le (by omega), List.take_of_length_le (by omega)] at hz; exact hz⟩
          · intro ρx0 sx0 hP
            obtain ⟨e2, e3, H, hz⟩ := hP
            show Wc _ _ _ _ _ _ _
            refine Wc.fix (k := 2) e2 ?_; refine Wc.fix (k := 3) e3 ?_; refine Wc.seq ?_; refine Wc.seq ?_; refine Wc.reg ?_; refine Wo.op (Step.faddr rfl) ?_; refine Wo.op (Step.load rfl (H.row 0 rfl) (by rfl)) ?_; refine Wo.op (Step.lenRows rfl ((hN.at H hPN))) ?_; refine Wo.op (Step.move (by conv => lhs; whnf)) ?_; refine Wo.nil ?_; refine Wc.mid (fun ρ' s' => (Hs s.nextId s s' [Item.own s.nextId 0 [.int .i64 L, .int .i64 st, vF, vN], Item.own sB2.nextId 0 [.int .i64 L2, .int .i64 st2, vF2, vN2]]) ∧ (R = R2)) (Wc.block (Wc.loop (fun m ρ' s' => ∃ (i : Nat), (ρ' 2 = ptrV s.nextId 0) ∧ (ρ' 3 = ptrV sB2.nextId 0) ∧ (ρ' 58 = .int .i64 ((R.length : Nat) : Int)) ∧ (ρ' 59 = .int .i64 ((i : Nat) : Int)) ∧ m = R.length - i ∧ (Hs s.nextId s s' [Item.own s.nextId 0 [.int .i64 L, .int .i64 st, vF, vN], Item.own sB2.nextId 0 [.int .i64 L2, .int .i64 st2, vF2, vN2]]) ∧ (i ≤ R.length) ∧ (R.take i = R2.take i)) ?_ ?_)) ?_
            · exact ⟨_, 0, rfl, rfl, rfl, rfl, rfl, H, by omega, by simp⟩
            · intro m2 ρ2 s2 hI
              obtain ⟨i, e2, e3, e58, e59, hm2, H, hi, hy⟩ := hI
              refine Wc.fix (k := 2) e2 ?_; refine Wc.fix (k := 3) e3 ?_; refine Wc.fix (k := 58) e58 ?_; refine Wc.fix (k := 59) e59 ?_; refine Wc.seq ?_; refine Wc.reg ?_; refine Wo.op (Step.lss rfl rfl) ?_; refine Wo.nil ?_; refine Wc.seq ?_; refine Wc.ite rfl (fun hc60 => ?_) (fun hc60 => ?_)
              · refine Wc.skip ?_; refine Wc.seq ?_; refine Wc.block ?_; refine Wc.seq ?_; refine Wc.reg ?_; refine Wo.op (Step.move (by conv => lhs; whnf)) ?_; refine Wo.op (Step.move (by conv => lhs; whnf)) ?_; refine Wo.nil ?_; refine Wc.seq ?_; refine Wc.seq ?_; refine Wc.draw ?_; refine Wd.pure rfl (Step.faddr rfl) ?_; refine Wd.read rfl (Step.load rfl (H.row 0 rfl) (by rfl)) ?_; refine Wd.pure rfl (Step.move (by conv => lhs; whnf)) ?_; refine Wd.idxR0 H rfl (hN) hPN rfl (by omega) (by omega) ?_; intro p65 u66 hu66; refine Wd.pure rfl (Step.lenSl rfl (hu66.at H hPN)) ?_
                have hlr := b3 _ (getr_mem (R := R) (q := ((i : Nat) : Int)) (by omega) (by omega))
                refine Wd.pure rfl (Step.faddr rfl) ?_; refine Wd.read rfl (Step.load rfl (H.row 1 rfl) (by rfl)) ?_; refine Wd.pure rfl (Step.move (by conv => lhs; whnf)) ?_; refine Wd.idxR0 H rfl (hN2) hPN rfl (by omega) (by omega) ?_; intro p71 u72 hu72; refine Wd.pure rfl (Step.lenSl rfl (hu72.at H hPN)) ?_; refine Wd.pure rfl (Step.neq rfl rfl) ?_; refine Wd.nil ?_; refine Wc.ite rfl (fun hc74 => ?_) (fun hc74 => ?_)
                · refine Wc.seq ?_; refine Wc.reg ?_; refine Wo.op (Step.move (by conv => lhs; whnf)) ?_; refine Wo.nil ?_; refine Wc.ret ⟨_, Rs.tmp (by conv => lhs; whnf) (Rs.nil), ?_⟩
                  exact ⟨congrArg Value.bool (decide_eq_false (fun h => by obtain ⟨rfl, rfl, rfl, rfl⟩ := h; omega)).symm, H.topur⟩
                · refine Wc.skip ?_; refine Wc.seq ?_; refine Wc.reg ?_; refine Wo.op (Step.faddr rfl) ?_; refine Wo.op (Step.load rfl (H.row 0 rfl) (by rfl)) ?_; refine Wo.op (Step.move (by conv => lhs; whnf)) ?_; refine Wo.idxR0 H rfl (hN) hPN rfl (by omega) (by omega) ?_; intro p78 u79 hu79; refine Wo.op (Step.lenSl rfl (hu79.at H hPN)) ?_
                  have hlr := b3 _ (getr_mem (R := R) (q := ((i : Nat) : Int)) (by omega) (by omega))
                  refine Wo.op (Step.move (by conv => lhs; whnf)) ?_; refine Wo.nil ?_; refine Wc.mid (fun ρ' s' => (ρ' 2 = ptrV s.nextId 0) ∧ (ρ' 3 = ptrV sB2.nextId 0) ∧ (ρ' 58 = .int .i64 ((R.length : Nat) : Int)) ∧ (ρ' 59 = .int .i64 ((i : Nat) : Int)) ∧ (Hs s.nextId s s' [Item.own s.nextId 0 [.int .i64 L, .int .i64 st, vF, vN], Item.own sB2.nextId 0 [.int .i64 L2, .int .i64 st2, vF2, vN2]]) ∧ (getr R ((i : Nat) : Int) = getr R2 ((i : Nat) : Int))) (Wc.block (Wc.loop (fun m ρ' s' => ∃ (a : Nat), (ρ' 2 = ptrV s.nextId 0) ∧ (ρ' 3 = ptrV sB2.nextId 0) ∧ (ρ' 6 = .int .i64 ((i : Nat) : Int)) ∧ (ρ' 58 = .int .i64 ((R.length : Nat) : Int)) ∧ (ρ' 59 = .int .i64 ((i : Nat) : Int)) ∧ (ρ' 80 = .int .i64 (((getr R ((i : Nat) : Int)).length : Nat) : Int)) ∧ (ρ' 81 = .int .i64 ((a : Nat) : Int)) ∧ m = (getr R ((i : Nat) : Int)).length - a ∧ (Hs s.nextId s s' [Item.own s.nextId 0 [.int .i64 L, .int .i64 st, vF, vN], Item.own sB2.nextId 0 [.int .i64 L2, .int .i64 st2, vF2, vN2]]) ∧ (a ≤ (getr R ((i : Nat) : Int)).length) ∧ ((getr R ((i : Nat) : Int)).take a = (getr R2 ((i : Nat) : Int)).take a)) ?_ ?_)) ?_
                  · exact ⟨_, 0, rfl, rfl, rfl, rfl, rfl, rfl, rfl, rfl, H, by omega, by simp⟩
                  · intro m4 ρ4 s4 hI
                    obtain ⟨a, e2, e3, e6, e58, e59, e80, e81, hm4, H, ha, hx⟩ := hI
                    refine Wc.fix (k := 2) e2 ?_; refine Wc.fix (k := 3) e3 ?_; refine Wc.fix (k := 6) e6 ?_; refine Wc.fix (k := 58) e58 ?_; refine Wc.fix (k := 59) e59 ?_; refine Wc.fix (k := 80) e80 ?_; refine Wc.fix (k := 81) e81 ?_; refine Wc.seq ?_; refine Wc.reg ?_; refine Wo.op (Step.lss rfl rfl) ?_; refine Wo.nil ?_; refine Wc.seq ?_; refine Wc.ite rfl (fun hc82 => ?_) (fun hc82 => ?_)
                    · refine Wc.skip ?_; refine Wc.seq ?_; refine Wc.block ?_; refine Wc.seq ?_; refine Wc.reg ?_; refine Wo.op (Step.move (by conv => lhs; whnf)) ?_; refine Wo.op (Step.move (by conv => lhs; whnf)) ?_; refine Wo.nil ?_; refine Wc.seq ?_; refine Wc.draw ?_; refine Wd.pure rfl (Step.faddr rfl) ?_; refine Wd.read rfl (Step.load rfl (H.row 0 rfl) (by rfl)) ?_; refine Wd.pure rfl (Step.move (by conv => lhs; whnf)) ?_; refine Wd.idxR0 H rfl (hN) hPN rfl (by omega) (by omega) ?_; intro p87 u88 hu88; refine Wd.pure rfl (Step.move (by conv => lhs; whnf)) ?_; refine Wd.idxI rfl (hu88.at H hPN) rfl (by omega) (by omega) ?_; intro p90; refine Wd.pure rfl (Step.faddr rfl) ?_; refine Wd.read rfl (Step.load rfl (H.row 1 rfl) (by rfl)) ?_; refine Wd.pure rfl (Step.move (by conv => lhs; whnf)) ?_; refine Wd.idxR0 H rfl (hN2) hPN rfl (by omega) (by omega) ?_; intro p95 u96 hu96; refine Wd.pure rfl (Step.move (by conv => lhs; whnf)) ?_; refine Wd.idxI rfl (hu96.at H hPN) rfl (by omega) (by omega) ?_; intro p98; refine Wd.pure rfl (Step.neq rfl rfl) ?_; refine Wd.nil ?_; refine Wc.ite rfl (fun hc100 => ?_) (fun hc100 => ?_)
                      · refine Wc.seq ?_; refine Wc.reg ?_; refine Wo.op (Step.move (by conv => lhs; whnf)) ?_; refine Wo.nil ?_; refine Wc.ret ⟨_, Rs.tmp (by conv => lhs; whnf) (Rs.nil), ?_⟩
                        exact ⟨congrArg Value.bool (decide_eq_false (fun h => by obtain ⟨rfl, rfl, rfl, rfl⟩ := h; omega)).symm, H.topur⟩
                      · refine Wc.skip ?_; refine Wc.reg ?_; refine Wo.op (Step.add (b := 1) rfl rfl (by omega)) ?_; refine Wo.op (Step.move (by conv => lhs; whnf)) ?_; refine Wo.nil ?_; refine ⟨_, ?_, a + 1, rfl, rfl, rfl, rfl, rfl, rfl, rfl, rfl, H, by omega, by rw [take_geti (by omega), take_geti (xs := getr R2 ((i : Nat) : Int)) (by omega), hx]; congr 2; omega⟩
                        omega
                    · refine Wc.exit ?_; refine .inl ⟨rfl, ?_⟩
                      exact ⟨rfl, rfl, rfl, rfl, H, by rw [List.take_of_length_le (by omega), List.take_of_length_le (by omega)] at hx; exact hx⟩
                  · intro ρx4 sx4 hP
                    obtain ⟨e2, e3, e58, e59, H, hx⟩ := hP
                    show Wc _ _ _ _ _ _ _
                    refine Wc.fix (k := 2) e2 ?_; refine Wc.fix (k := 3) e3 ?_; refine Wc.fix (k := 58) e58 ?_; refine Wc.fix (k := 59) e59 ?_; refine Wc.reg ?_; refine Wo.op (Step.add (b := 1) rfl rfl (by omega)) ?_; refine Wo.op (Step.move (by conv => lhs; whnf)) ?_; refine Wo.nil ?_; refine ⟨_, ?_, i + 1, rfl, rfl, rfl, rfl, rfl, H, by omega, by rw [take_getr (by omega), take_getr (R := R2) (by omega), hy, hx]⟩
                    omega
              · refine Wc.exit ?_; refine .inl ⟨rfl, ?_⟩
                exact ⟨H, by rw [List.take_of_length_le (by omega), List.take_of_length_le (by omega)] at hy; exact hy⟩
            · intro ρx2 sx2 hP
              obtain ⟨H, hy⟩ := hP
              show Wc _ _ _ _ _ _ _
              refine Wc.seq ?_; refine Wc.reg ?_; refine Wo.op (Step.move (by conv => lhs; whnf)) ?_; refine Wo.nil ?_; refine Wc.ret ⟨_, Rs.tmp (by conv => lhs; whnf) (Rs.nil), ?_⟩
              exact ⟨congrArg Value.bool (decide_eq_true ⟨by omega, by omega, hz, hy⟩).symm, H.topur⟩
end Go.EvK
end
