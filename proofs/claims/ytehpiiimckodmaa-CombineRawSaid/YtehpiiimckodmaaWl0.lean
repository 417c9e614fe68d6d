/- Walks: words, patterns, runners. -/
import Derived.Test.YtehpiiimckodmaaEw1
import Derived.Test.YtehpiiimckodmaaEv5
import Derived.Test.YtehpiiimckodmaaKCR
import Derived.Test.YtehpiiimckodmaaEw0
set_option linter.unusedVariables false
set_option linter.unusedSimpArgs false
section
set_option linter.unusedVariables false
set_option maxRecDepth 100000
set_option maxHeartbeats 4000000
namespace Go.EvK
open Go Go.Ev Go.EvW Go.Co
theorem word_Valid_ok {s : St} {w : List UInt8} {k : Int} (hk : -9223372036854775808 ≤ k ∧ k < 9223372036854775808) (hw : w.length < 9223372036854775807) :
    Wf kprog n_word_Valid [.string ⟨⟨w⟩⟩, .int .i64 k] s (fun v s' => v = .bool (decide (WordOk w k)) ∧ s = s') := by
  refine Wf.of p_word_Valid rfl ?_
  unfold c_word_Valid
  refine Wc.seq ?_
  refine Wc.reg ?_
  refine Wo.op (Step.move (by conv => lhs; whnf)) ?_
  refine Wo.nil ?_
  refine Wc.seq ?_
  refine Wc.seq ?_
  refine Wc.reg ?_
  refine Wo.op (Step.move (by conv => lhs; whnf)) ?_
  refine Wo.op (Step.lss (b := 1) rfl rfl) ?_
  refine Wo.op (Step.move (by conv => lhs; whnf)) ?_
  refine Wo.cases (j := 8) rfl (fun hc8 => ?_) (fun hc8 => ?_)
  · skip
    refine Wo.off rfl rfl ?_
    refine Wo.off rfl rfl ?_
    refine Wo.op (Step.pickT rfl (by conv => lhs; whnf)) ?_
    refine Wo.op (Step.move (by conv => lhs; whnf)) ?_
    refine Wo.off rfl rfl ?_
    refine Wo.off rfl rfl ?_
    refine Wo.off rfl rfl ?_
    refine Wo.op (Step.pickT rfl (by conv => lhs; whnf)) ?_
    refine Wo.nil ?_
    refine Wc.yes rfl ?_
    refine Wc.seq ?_
    refine Wc.reg ?_
    refine Wo.op (Step.move (by conv => lhs; whnf)) ?_
    refine Wo.nil ?_
    refine Wc.ret ⟨_, Rs.tmp (by conv => lhs; whnf) (Rs.nil), ?_⟩
    exact ⟨congrArg Value.bool (decide_eq_false (fun h => by have := h.1; omega)).symm, rfl⟩
  · skip
    refine Wo.on rfl ?_
    refine Wo.op (Step.move (by conv => lhs; whnf)) ?_
    refine Wo.on rfl ?_
    refine Wo.op (Step.gtr (b := 6) rfl rfl) ?_
    refine Wo.op (Step.pickF rfl (by conv => lhs; whnf)) ?_
    refine Wo.op (Step.move (by conv => lhs; whnf)) ?_
    refine Wo.cases (j := 12) rfl (fun hc12 => ?_) (fun hc12 => ?_)
    · skip
      refine Wo.off rfl rfl ?_
      refine Wo.off rfl rfl ?_
      refine Wo.off rfl rfl ?_
      refine Wo.op (Step.pickT rfl (by conv => lhs; whnf)) ?_
      refine Wo.nil ?_
      refine Wc.yes rfl ?_
      refine Wc.seq ?_
      refine Wc.reg ?_
      refine Wo.op (Step.move (by conv => lhs; whnf)) ?_
      refine Wo.nil ?_
      refine Wc.ret ⟨_, Rs.tmp (by conv => lhs; whnf) (Rs.nil), ?_⟩
      exact ⟨congrArg Value.bool (decide_eq_false (fun h => by have := h.2.1; omega)).symm, rfl⟩
    · skip
      refine Wo.on rfl ?_
      refine Wo.op (Step.move (by conv => lhs; whnf)) ?_
      refine Wo.on rfl ?_
      refine Wo.op (Step.lenStrG rfl) ?_
      refine Wo.on rfl ?_
      refine Wo.op (Step.gtr (b := 2048) rfl rfl) ?_
      refine Wo.op (Step.pickF rfl (by conv => lhs; whnf)) ?_
      refine Wo.nil ?_
      refine Wc.ite rfl (fun hc16 => ?_) (fun hc16 => ?_)
      · skip
        refine Wc.seq ?_
        refine Wc.reg ?_
        refine Wo.op (Step.move (by conv => lhs; whnf)) ?_
        refine Wo.nil ?_
        refine Wc.ret ⟨_, Rs.tmp (by conv => lhs; whnf) (Rs.nil), ?_⟩
        exact ⟨congrArg Value.bool (decide_eq_false (fun h => by have := h.2.2.1; omega)).symm, rfl⟩
      · skip
        refine Wc.skip ?_
        refine Wc.seq ?_
        refine Wc.seq ?_
        refine Wc.reg ?_
        refine Wo.op (Step.move (by conv => lhs; whnf)) ?_
        refine Wo.nil ?_
        refine Wc.mid (fun ρ' s' => (s' = s) ∧ (WordOk w k)) (Wc.block (Wc.loop (fun m ρ' s' => ∃ (i : Nat), (ρ' 0 = .string ⟨⟨w⟩⟩) ∧ (ρ' 1 = .int .i64 k) ∧ (ρ' 5 = .int .i64 ((i : Nat) : Int)) ∧ (m = w.length - i) ∧ (s' = s) ∧ (i ≤ w.length) ∧ (∀ c ∈ w.take i, 97 ≤ c.toNat ∧ (c.toNat : Int) - 97 < k)) ?_ ?_)) ?_
        · exact ⟨_, 0, rfl, rfl, rfl, rfl, rfl, by omega, by simp⟩
        · intro m ρ0 s0 hI
          obtain ⟨i, e0, e1, e5, hm, hs, hi, hz⟩ := hI
          refine Wc.fix (k := 0) e0 ?_
          refine Wc.fix (k := 1) e1 ?_
          refine Wc.fix (k := 5) e5 ?_
          subst hs
          have hg1 := getu_lt w i
          refine Wc.seq ?_
          refine Wc.seq ?_
          refine Wc.reg ?_
          refine Wo.op (Step.move (by conv => lhs; whnf)) ?_
          refine Wo.op (Step.move (by conv => lhs; whnf)) ?_
          refine Wo.op (Step.lenStrG rfl) ?_
          refine Wo.op (Step.lss rfl rfl) ?_
          refine Wo.nil ?_
          refine Wc.ite rfl (fun hc20 => ?_) (fun hc20 => ?_)
          · skip
            refine Wc.skip ?_
            refine Wc.seq ?_
            refine Wc.block ?_
            refine Wc.seq ?_
            refine Wc.reg ?_
            refine Wo.op (Step.move (by conv => lhs; whnf)) ?_
            refine Wo.op (Step.move (by conv => lhs; whnf)) ?_
            refine Wo.op (Step.idxStrG rfl rfl (by omega) (by omega)) ?_
            refine Wo.op (Step.lss (b := 97) rfl rfl) ?_
            refine Wo.op (Step.move (by conv => lhs; whnf)) ?_
            refine Wo.cases (j := 27) rfl (fun hc27 => ?_) (fun hc27 => ?_)
            · skip
              refine Wo.off rfl rfl ?_
              refine Wo.off rfl rfl ?_
              refine Wo.off rfl rfl ?_
              refine Wo.off rfl rfl ?_
              refine Wo.off rfl rfl ?_
              refine Wo.off rfl rfl ?_
              refine Wo.off rfl rfl ?_
              refine Wo.op (Step.pickT rfl (by conv => lhs; whnf)) ?_
              refine Wo.nil ?_
              refine Wc.yes rfl ?_
              refine Wc.seq ?_
              refine Wc.reg ?_
              refine Wo.op (Step.move (by conv => lhs; whnf)) ?_
              refine Wo.nil ?_
              refine Wc.ret ⟨_, Rs.tmp (by conv => lhs; whnf) (Rs.nil), ?_⟩
              exact ⟨congrArg Value.bool (decide_eq_false (fun h => by have := h.2.2.2 _ (getu_mem (i := i) (by omega) (by omega)); omega)).symm, rfl⟩
            · skip
              refine Wo.on rfl ?_
              refine Wo.op (Step.move (by conv => lhs; whnf)) ?_
              refine Wo.on rfl ?_
              refine Wo.op (Step.move (by conv => lhs; whnf)) ?_
              refine Wo.on rfl ?_
              refine Wo.op (Step.idxStrG rfl rfl (by omega) (by omega)) ?_
              refine Wo.on rfl ?_
              refine Wo.op (Step.sub8 (b := 97) rfl rfl (by omega)) ?_
              refine Wo.on rfl ?_
              refine Wo.op (Step.conv64 rfl (by omega)) ?_
              refine Wo.on rfl ?_
              refine Wo.op (Step.move (by conv => lhs; whnf)) ?_
              refine Wo.on rfl ?_
              refine Wo.op (Step.geq rfl rfl) ?_
              refine Wo.op (Step.pickF rfl (by conv => lhs; whnf)) ?_
              refine Wo.nil ?_
              refine Wc.ite rfl (fun hc35 => ?_) (fun hc35 => ?_)
              · skip
                refine Wc.seq ?_
                refine Wc.reg ?_
                refine Wo.op (Step.move (by conv => lhs; whnf)) ?_
                refine Wo.nil ?_
                refine Wc.ret ⟨_, Rs.tmp (by conv => lhs; whnf) (Rs.nil), ?_⟩
                exact ⟨congrArg Value.bool (decide_eq_false (fun h => by have := h.2.2.2 _ (getu_mem (i := i) (by omega) (by omega)); omega)).symm, rfl⟩
              · skip
                refine Wc.skip ?_
                refine Wc.reg ?_
                refine Wo.op (Step.move (by conv => lhs; whnf)) ?_
                refine Wo.op (Step.add (b := 1) rfl rfl (by omega)) ?_
                refine Wo.op (Step.move (by conv => lhs; whnf)) ?_
                refine Wo.nil ?_
                refine ⟨_, ?_, i + 1, rfl, rfl, rfl, rfl, rfl, by omega, by intro c hc; rw [take_getu (by omega), List.mem_append, List.mem_singleton] at hc; rcases hc with hc | rfl; exact hz c hc; omega⟩
                omega
          · skip
            refine Wc.exit ?_
            refine .inl ⟨rfl, ?_⟩
            exact ⟨rfl, ⟨by omega, by omega, by omega, by rw [List.take_of_length_le (by omega)] at hz; exact hz⟩⟩
        · intro ρx0 sx0 hP
          obtain ⟨hs, hz⟩ := hP
          show Wc _ _ _ _ _ _ _
          subst hs
          refine Wc.seq ?_
          refine Wc.reg ?_
          refine Wo.op (Step.move (by conv => lhs; whnf)) ?_
          refine Wo.nil ?_
          refine Wc.ret ⟨_, Rs.tmp (by conv => lhs; whnf) (Rs.nil), ?_⟩
          exact ⟨congrArg Value.bool (decide_eq_true hz).symm, rfl⟩
end Go.EvK
end

section
set_option linter.unusedVariables false
set_option maxRecDepth 100000
set_option maxHeartbeats 4000000
namespace Go.EvK
open Go Go.Ev Go.EvW Go.Co
theorem ref01_MayLetters_ok {s : St} {x : Int} : Wf kprog n_ref01_MayLetters [.int .i64 x] s (fun v s' => v = .bool (decide (1 ≤ x ∧ x ≤ 6)) ∧ s = s') := by
  have H := Hs.start s
  refine Wf.of p_ref01_MayLetters rfl ?_
  unfold c_ref01_MayLetters
  refine Wc.seq ?_
  refine Wc.reg ?_
  refine Wo.op (Step.move (by conv => lhs; whnf)) ?_
  refine Wo.nil ?_
  refine Wc.seq ?_
  refine Wc.reg ?_
  refine Wo.op (Step.move (by conv => lhs; whnf)) ?_
  refine Wo.op (Step.geq (b := 1) rfl rfl) ?_
  refine Wo.op (Step.move (by conv => lhs; whnf)) ?_
  refine Wo.cases (j := 5) rfl (fun hc5 => ?_) (fun hc5 => ?_)
  · skip
    refine Wo.on rfl ?_
    refine Wo.op (Step.move (by conv => lhs; whnf)) ?_
    refine Wo.on rfl ?_
    refine Wo.op (Step.leq (b := 6) rfl rfl) ?_
    refine Wo.op (Step.pickT rfl (by conv => lhs; whnf)) ?_
    refine Wo.op (Step.move (by conv => lhs; whnf)) ?_
    refine Wo.nil ?_
    refine Wc.ret ⟨_, Rs.tmp (by conv => lhs; whnf) (Rs.nil), ?_⟩
    exact ⟨congrArg Value.bool (by show decide (x ≤ 6) = _; simp [hc5]), rfl⟩
  · skip
    refine Wo.off rfl rfl ?_
    refine Wo.off rfl rfl ?_
    refine Wo.op (Step.pickF rfl (by conv => lhs; whnf)) ?_
    refine Wo.op (Step.move (by conv => lhs; whnf)) ?_
    refine Wo.nil ?_
    refine Wc.ret ⟨_, Rs.tmp (by conv => lhs; whnf) (Rs.nil), ?_⟩
    exact ⟨congrArg Value.bool (decide_eq_false (by omega)).symm, rfl⟩
theorem ref01_Valid_ok {s : St} {w : List UInt8} {k : Int} (hk : -9223372036854775808 ≤ k ∧ k < 9223372036854775808) (hw : w.length < 9223372036854775807) :
    Wf kprog n_ref01_Valid [.string ⟨⟨w⟩⟩, .int .i64 k] s (fun v s' => v = .bool (decide (WordOk w k)) ∧ s = s') := by
  have H := Hs.start s
  refine Wf.of p_ref01_Valid rfl ?_
  unfold c_ref01_Valid
  refine Wc.seq ?_
  refine Wc.reg ?_
  refine Wo.op (Step.move (by conv => lhs; whnf)) ?_
  refine Wo.nil ?_
  refine Wc.seq ?_
  refine Wc.seq ?_
  refine Wc.reg ?_
  refine Wo.op (Step.move (by conv => lhs; whnf)) ?_
  -- call ref01_MayLetters
  refine Wo.call (Wf.mono ref01_MayLetters_ok ?_)
  rintro _ _ ⟨rfl, rfl⟩
  refine Wo.op (Step.notD rfl) ?_
  refine Wo.op (Step.move (by conv => lhs; whnf)) ?_
  refine Wo.cases (j := 9) rfl (fun hc9 => ?_) (fun hc9 => ?_)
  · skip
    refine Wo.off rfl rfl ?_
    refine Wo.off rfl rfl ?_
    refine Wo.off rfl rfl ?_
    refine Wo.op (Step.pickT rfl (by conv => lhs; whnf)) ?_
    refine Wo.nil ?_
    refine Wc.yes rfl ?_
    refine Wc.seq ?_
    refine Wc.reg ?_
    refine Wo.op (Step.move (by conv => lhs; whnf)) ?_
    refine Wo.nil ?_
    refine Wc.ret ⟨_, Rs.tmp (by conv => lhs; whnf) (Rs.nil), ?_⟩
    exact ⟨congrArg Value.bool (decide_eq_false (fun h => hc9 ⟨h.1, h.2.1⟩)).symm, rfl⟩
  · skip
    have hc9 : 1 ≤ k ∧ k ≤ 6 := Classical.byContradiction hc9
    refine Wo.on rfl ?_
    refine Wo.op (Step.move (by conv => lhs; whnf)) ?_
    refine Wo.on rfl ?_
    refine Wo.op (Step.lenStrG rfl) ?_
    refine Wo.on rfl ?_
    refine Wo.op (Step.gtr (b := 2048) rfl rfl) ?_
    refine Wo.op (Step.pickF rfl (by conv => lhs; whnf)) ?_
    refine Wo.nil ?_
    refine Wc.ite rfl (fun hc13 => ?_) (fun hc13 => ?_)
    · skip
      refine Wc.seq ?_
      refine Wc.reg ?_
      refine Wo.op (Step.move (by conv => lhs; whnf)) ?_
      refine Wo.nil ?_
      refine Wc.ret ⟨_, Rs.tmp (by conv => lhs; whnf) (Rs.nil), ?_⟩
      exact ⟨congrArg Value.bool (decide_eq_false (fun h => by have := h.2.2.1; omega)).symm, rfl⟩
    · skip
      refine Wc.skip ?_
      refine Wc.seq ?_
      refine Wc.seq ?_
      refine Wc.reg ?_
      refine Wo.op (Step.move (by conv => lhs; whnf)) ?_
      refine Wo.nil ?_
      refine Wc.mid (fun ρ' s' => (s' = s) ∧ (WordOk w k)) (Wc.block (Wc.loop (fun m ρ' s' => ∃ (i : Nat), (ρ' 0 = .string ⟨⟨w⟩⟩) ∧ (ρ' 1 = .int .i64 k) ∧ (ρ' 5 = .int .i64 ((i : Nat) : Int)) ∧ m = w.length - i ∧ (s' = s) ∧ (i ≤ w.length) ∧ (∀ c ∈ w.take i, 97 ≤ c.toNat ∧ (c.toNat : Int) - 97 < k)) ?_ ?_)) ?_
      · skip
        exact ⟨_, 0, rfl, rfl, rfl, rfl, rfl, by omega, by simp⟩
      · intro m0 ρ0 s0 hI
        obtain ⟨i, e0, e1, e5, hm0, hs, hi, hz⟩ := hI
        refine Wc.fix (k := 0) e0 ?_
        refine Wc.fix (k := 1) e1 ?_
        refine Wc.fix (k := 5) e5 ?_
        subst hs
        have hg1 := getu_lt w i
        refine Wc.seq ?_
        refine Wc.seq ?_
        refine Wc.reg ?_
        refine Wo.op (Step.move (by conv => lhs; whnf)) ?_
        refine Wo.op (Step.move (by conv => lhs; whnf)) ?_
        refine Wo.op (Step.lenStrG rfl) ?_
        refine Wo.op (Step.lss rfl rfl) ?_
        refine Wo.nil ?_
        refine Wc.ite rfl (fun hc17 => ?_) (fun hc17 => ?_)
        · skip
          refine Wc.skip ?_
          refine Wc.seq ?_
          refine Wc.block ?_
          refine Wc.seq ?_
          refine Wc.reg ?_
          refine Wo.op (Step.move (by conv => lhs; whnf)) ?_
          refine Wo.op (Step.move (by conv => lhs; whnf)) ?_
          refine Wo.op (Step.idxStrG rfl rfl (by omega) (by omega)) ?_
          refine Wo.op (Step.lss (b := 97) rfl rfl) ?_
          refine Wo.op (Step.move (by conv => lhs; whnf)) ?_
          refine Wo.cases (j := 24) rfl (fun hc24 => ?_) (fun hc24 => ?_)
          · skip
            refine Wo.off rfl rfl ?_
            refine Wo.off rfl rfl ?_
            refine Wo.off rfl rfl ?_
            refine Wo.off rfl rfl ?_
            refine Wo.off rfl rfl ?_
            refine Wo.off rfl rfl ?_
            refine Wo.off rfl rfl ?_
            refine Wo.op (Step.pickT rfl (by conv => lhs; whnf)) ?_
            refine Wo.nil ?_
            refine Wc.yes rfl ?_
            refine Wc.seq ?_
            refine Wc.reg ?_
            refine Wo.op (Step.move (by conv => lhs; whnf)) ?_
            refine Wo.nil ?_
            refine Wc.ret ⟨_, Rs.tmp (by conv => lhs; whnf) (Rs.nil), ?_⟩
            exact ⟨congrArg Value.bool (decide_eq_false (fun h => by have := h.2.2.2 _ (getu_mem (i := i) (by omega) (by omega)); omega)).symm, rfl⟩
          · skip
            refine Wo.on rfl ?_
            refine Wo.op (Step.move (by conv => lhs; whnf)) ?_
            refine Wo.on rfl ?_
            refine Wo.op (Step.move (by conv => lhs; whnf)) ?_
            refine Wo.on rfl ?_
            refine Wo.op (Step.idxStrG rfl rfl (by omega) (by omega)) ?_
            refine Wo.on rfl ?_
            refine Wo.op (Step.sub8 (b := 97) rfl rfl (by omega)) ?_
            refine Wo.on rfl ?_
            refine Wo.op (Step.conv64 rfl (by omega)) ?_
            refine Wo.on rfl ?_
            refine Wo.op (Step.move (by conv => lhs; whnf)) ?_
            refine Wo.on rfl ?_
            refine Wo.op (Step.geq rfl rfl) ?_
            refine Wo.op (Step.pickF rfl (by conv => lhs; whnf)) ?_
            refine Wo.nil ?_
            refine Wc.ite rfl (fun hc32 => ?_) (fun hc32 => ?_)
            · skip
              refine Wc.seq ?_
              refine Wc.reg ?_
              refine Wo.op (Step.move (by conv => lhs; whnf)) ?_
              refine Wo.nil ?_
              refine Wc.ret ⟨_, Rs.tmp (by conv => lhs; whnf) (Rs.nil), ?_⟩
              exact ⟨congrArg Value.bool (decide_eq_false (fun h => by have := h.2.2.2 _ (getu_mem (i := i) (by omega) (by omega)); omega)).symm, rfl⟩
            · skip
              refine Wc.skip ?_
              refine Wc.reg ?_
              refine Wo.op (Step.move (by conv => lhs; whnf)) ?_
              refine Wo.op (Step.add (b := 1) rfl rfl (by omega)) ?_
              refine Wo.op (Step.move (by conv => lhs; whnf)) ?_
              refine Wo.nil ?_
              refine ⟨_, ?_, i + 1, rfl, rfl, rfl, rfl, rfl, by omega, by intro c hc; rw [take_getu (by omega), List.mem_append, List.mem_singleton] at hc; rcases hc with hc | rfl; exact hz c hc; omega⟩
              omega
        · skip
          refine Wc.exit ?_
          refine .inl ⟨rfl, ?_⟩
          exact ⟨rfl, ⟨by omega, by omega, by omega, by rw [List.take_of_length_le (by omega)] at hz; exact hz⟩⟩
      · intro ρx0 sx0 hP
        obtain ⟨hs, hz⟩ := hP
        show Wc _ _ _ _ _ _ _
        subst hs
        refine Wc.seq ?_
        refine Wc.reg ?_
        refine Wo.op (Step.move (by conv => lhs; whnf)) ?_
        refine Wo.nil ?_
        refine Wc.ret ⟨_, Rs.tmp (by conv => lhs; whnf) (Rs.nil), ?_⟩
        exact ⟨congrArg Value.bool (decide_eq_true hz).symm, rfl⟩
end Go.EvK
end

section
set_option linter.unusedVariables false
set_option maxRecDepth 100000
set_option maxHeartbeats 4000000
namespace Go.EvK
open Go Go.Ev Go.EvW Go.Co
theorem pattern_Validate_ok {s : St} {P : Nat → Prop} {vB : Value} {bs : List (List UInt8)} {L : Int} (hB : IsStrs s P vB bs) (hPN : ∀ A, P A → A < s.nextId) (hL : I64 L) (hln : bs.length ≤ 281474976710656) (hb : ∀ b, b ∈ bs → b.length ≤ 281474976710656) :
    Wf kprog n_pattern_Validate [.agg ⟨[vB]⟩, .int .i64 L] s (fun v s' => v = .int .i64 (validP L bs) ∧ Pur s s') := by
  have H := Hs.start s
  refine Wf.of p_pattern_Validate rfl ?_
  unfold c_pattern_Validate
  refine Wc.seq ?_
  refine Wc.reg ?_
  refine Wo.boxH H (by conv => lhs; whnf) ?_
  intro sB2 H nB2
  refine Wo.op (Step.move (by conv => lhs; whnf)) ?_
  refine Wo.nil ?_
  refine Wc.seq ?_
  refine Wc.seq ?_
  refine Wc.reg ?_
  refine Wo.op (Step.move (by conv => lhs; whnf)) ?_
  refine Wo.op (Step.lss (b := 1) rfl rfl) ?_
  refine Wo.op (Step.move (by conv => lhs; whnf)) ?_
  refine Wo.cases (j := 12) rfl (fun hc12 => ?_) (fun hc12 => ?_)
  · skip
    refine Wo.off rfl rfl ?_
    refine Wo.off rfl rfl ?_
    refine Wo.op (Step.pickT rfl (by conv => lhs; whnf)) ?_
    refine Wo.nil ?_
    refine Wc.yes rfl ?_
    refine Wc.seq ?_
    refine Wc.reg ?_
    refine Wo.op (Step.move (by conv => lhs; whnf)) ?_
    refine Wo.nil ?_
    refine Wc.ret ⟨_, Rs.tmp (by conv => lhs; whnf) (Rs.nil), ?_⟩
    exact ⟨congrArg (Value.int .i64) (by unfold validP; rw [if_pos (by omega)]; rfl), H.topur⟩
  · skip
    refine Wo.on rfl ?_
    refine Wo.op (Step.move (by conv => lhs; whnf)) ?_
    refine Wo.on rfl ?_
    refine Wo.op (Step.gtr (b := 6) rfl rfl) ?_
    refine Wo.op (Step.pickF rfl (by conv => lhs; whnf)) ?_
    refine Wo.nil ?_
    refine Wc.ite rfl (fun hc15 => ?_) (fun hc15 => ?_)
    · skip
      refine Wc.seq ?_
      refine Wc.reg ?_
      refine Wo.op (Step.move (by conv => lhs; whnf)) ?_
      refine Wo.nil ?_
      refine Wc.ret ⟨_, Rs.tmp (by conv => lhs; whnf) (Rs.nil), ?_⟩
      exact ⟨congrArg (Value.int .i64) (by unfold validP; rw [if_pos (by omega)]; rfl), H.topur⟩
    · skip
      refine Wc.skip ?_
      refine Wc.seq ?_
      refine Wc.reg ?_
      refine Wo.op (Step.move (by conv => lhs; whnf)) ?_
      refine Wo.nil ?_
      refine Wc.seq ?_
      refine Wc.seq ?_
      refine Wc.reg ?_
      refine Wo.op (Step.faddr rfl) ?_
      refine Wo.op (Step.load rfl (H.row 0 rfl) (by rfl)) ?_
      refine Wo.op (Step.lenSl rfl (hB.at H hPN)) ?_
      refine Wo.op (Step.move (by conv => lhs; whnf)) ?_
      refine Wo.nil ?_
      refine Wc.mid (fun ρ' s' => (ρ' 1 = .int .i64 L) ∧ (ρ' 2 = ptrV s.nextId 0) ∧ (ρ' 5 = .int .i64 (min ((tot bs : Nat) : Int) 65)) ∧ (Hs s.nextId s s' [Item.own s.nextId 0 [vB]])) (Wc.block (Wc.loop (fun m ρ' s' => ∃ (i : Nat), (ρ' 1 = .int .i64 L) ∧ (ρ' 2 = ptrV s.nextId 0) ∧ (ρ' 5 = .int .i64 (min ((tot (bs.take i) : Nat) : Int) 65)) ∧ (ρ' 17 = vB) ∧ (ρ' 18 = .int .i64 ((bs.length : Nat) : Int)) ∧ (ρ' 19 = .int .i64 ((i : Nat) : Int)) ∧ m = bs.length - i ∧ (Hs s.nextId s s' [Item.own s.nextId 0 [vB]]) ∧ (i ≤ bs.length)) ?_ ?_)) ?_
      · skip
        exact ⟨_, 0, rfl, rfl, rfl, rfl, rfl, rfl, rfl, H, by omega⟩
      · intro m0 ρ0 s0 hI
        obtain ⟨i, e1, e2, e5, e17, e18, e19, hm0, H, hi⟩ := hI
        refine Wc.fix (k := 1) e1 ?_
        refine Wc.fix (k := 2) e2 ?_
        refine Wc.fix (k := 5) e5 ?_
        refine Wc.fix (k := 17) e17 ?_
        refine Wc.fix (k := 18) e18 ?_
        refine Wc.fix (k := 19) e19 ?_
        refine Wc.seq ?_
        refine Wc.reg ?_
        refine Wo.op (Step.lss rfl rfl) ?_
        refine Wo.nil ?_
        refine Wc.seq ?_
        refine Wc.ite rfl (fun hc20 => ?_) (fun hc20 => ?_)
        · skip
          refine Wc.skip ?_
          refine Wc.seq ?_
          refine Wc.block ?_
          refine Wc.seq ?_
          refine Wc.reg ?_
          refine Wo.idxS rfl (hB.at H hPN) rfl (by first | omega | (simp; omega)) (by first | omega | (simp; omega)) ?_
          intro p21
          refine Wo.op (Step.move (by conv => lhs; whnf)) ?_
          refine Wo.nil ?_
          refine Wc.reg ?_
          refine Wo.op (Step.move (by conv => lhs; whnf)) ?_
          refine Wo.op (Step.move (by conv => lhs; whnf)) ?_
          refine Wo.op (Step.lenStrG rfl) ?_
          have hgl := hb _ (gets_mem' (xs := bs) (i := i) (by omega))
          refine Wo.op (Step.add rfl rfl (by omega)) ?_
          refine Wo.op (Step.min (b := 65) rfl rfl) ?_
          refine Wo.op (Step.move (by conv => lhs; whnf)) ?_
          refine Wo.nil ?_
          refine Wc.reg ?_
          refine Wo.op (Step.add (b := 1) rfl rfl (by omega)) ?_
          refine Wo.op (Step.move (by conv => lhs; whnf)) ?_
          refine Wo.nil ?_
          have htk : tot (bs.take (i + 1)) = tot (bs.take i) + (gets bs (i : Nat)).length := by rw [take_gets (by omega), tot_snoc]
          exact ⟨_, by omega, i + 1, rfl, rfl, congrArg (Value.int .i64) (by rw [htk]; omega), rfl, rfl, rfl, rfl, H, by omega⟩
        · skip
          refine Wc.exit ?_
          refine .inl ⟨rfl, ?_⟩
          have e : i = bs.length := by omega
          subst e
          rw [List.take_length] at e5
          exact ⟨rfl, rfl, by rw [List.take_length]; rfl, H⟩
      · intro ρx0 sx0 hP
        obtain ⟨e1, e2, h5, H⟩ := hP
        show Wc _ _ _ _ _ _ _
        refine Wc.fix (k := 1) e1 ?_
        refine Wc.fix (k := 2) e2 ?_
        refine Wc.fix (k := 5) h5 ?_
        refine Wc.seq ?_
        refine Wc.seq ?_
        refine Wc.reg ?_
        refine Wo.op (Step.faddr rfl) ?_
        refine Wo.op (Step.load rfl (H.row 0 rfl) (by rfl)) ?_
        refine Wo.op (Step.lenSl rfl (hB.at H hPN)) ?_
        refine Wo.op (Step.gtr (b := 8) rfl rfl) ?_
        refine Wo.op (Step.move (by conv => lhs; whnf)) ?_
        refine Wo.cases (j := 33) rfl (fun hc33 => ?_) (fun hc33 => ?_)
        · skip
          refine Wo.off rfl rfl ?_
          refine Wo.off rfl rfl ?_
          refine Wo.op (Step.pickT rfl (by conv => lhs; whnf)) ?_
          refine Wo.nil ?_
          refine Wc.yes rfl ?_
          refine Wc.seq ?_
          refine Wc.reg ?_
          refine Wo.op (Step.move (by conv => lhs; whnf)) ?_
          refine Wo.nil ?_
          refine Wc.ret ⟨_, Rs.tmp (by conv => lhs; whnf) (Rs.nil), ?_⟩
          exact ⟨congrArg (Value.int .i64) (by unfold validP; rw [if_neg (by omega), if_pos (by omega)]; rfl), H.topur⟩
        · skip
          refine Wo.on rfl ?_
          refine Wo.op (Step.move (by conv => lhs; whnf)) ?_
          refine Wo.on rfl ?_
          refine Wo.op (Step.gtr (b := 64) rfl rfl) ?_
          refine Wo.op (Step.pickF rfl (by conv => lhs; whnf)) ?_
          refine Wo.nil ?_
          refine Wc.ite rfl (fun hc36 => ?_) (fun hc36 => ?_)
          · skip
            refine Wc.seq ?_
            refine Wc.reg ?_
            refine Wo.op (Step.move (by conv => lhs; whnf)) ?_
            refine Wo.nil ?_
            refine Wc.ret ⟨_, Rs.tmp (by conv => lhs; whnf) (Rs.nil), ?_⟩
            exact ⟨congrArg (Value.int .i64) (by unfold validP; rw [if_neg (by omega), if_pos (by omega)]; rfl), H.topur⟩
          · skip
            refine Wc.skip ?_
            refine Wc.seq ?_
            refine Wc.seq ?_
            refine Wc.reg ?_
            refine Wo.op (Step.faddr rfl) ?_
            refine Wo.op (Step.load rfl (H.row 0 rfl) (by rfl)) ?_
            refine Wo.op (Step.lenSl rfl (hB.at H hPN)) ?_
            refine Wo.op (Step.eql (b := 0) rfl rfl) ?_
            refine Wo.nil ?_
            refine Wc.ite rfl (fun hc40 => ?_) (fun hc40 => ?_)
            · skip
              refine Wc.seq ?_
              refine Wc.reg ?_
              refine Wo.op (Step.move (by conv => lhs; whnf)) ?_
              refine Wo.nil ?_
              refine Wc.ret ⟨_, Rs.tmp (by conv => lhs; whnf) (Rs.nil), ?_⟩
              exact ⟨congrArg (Value.int .i64) (by unfold validP; rw [if_neg (by omega), if_neg (by omega), if_pos (by omega)]; rfl), H.topur⟩
            · skip
              refine Wc.skip ?_
              refine Wc.seq ?_
              refine Wc.seq ?_
              refine Wc.reg ?_
              refine Wo.op (Step.faddr rfl) ?_
              refine Wo.op (Step.load rfl (H.row 0 rfl) (by rfl)) ?_
              refine Wo.op (Step.lenSl rfl (hB.at H hPN)) ?_
              refine Wo.op (Step.move (by conv => lhs; whnf)) ?_
              refine Wo.nil ?_
              refine Wc.mid (fun ρ' s' => (Hs s.nextId s s' [Item.own s.nextId 0 [vB]]) ∧ (∀ j, j < bs.length → BlkOk L bs j)) (Wc.block (Wc.loop (fun m ρ' s' => ∃ (i : Nat), (ρ' 1 = .int .i64 L) ∧ (ρ' 2 = ptrV s.nextId 0) ∧ (ρ' 42 = vB) ∧ (ρ' 43 = .int .i64 ((bs.length : Nat) : Int)) ∧ (ρ' 44 = .int .i64 ((i : Nat) : Int)) ∧ m = bs.length - i ∧ (Hs s.nextId s s' [Item.own s.nextId 0 [vB]]) ∧ (i ≤ bs.length) ∧ (∀ j, j < i → BlkOk L bs j)) ?_ ?_)) ?_
              · skip
                exact ⟨_, 0, rfl, rfl, rfl, rfl, rfl, rfl, H, by omega, by intro j hj; omega⟩
              · intro m2 ρ2 s2 hI
                obtain ⟨i, e1, e2, e42, e43, e44, hm2, H, hi, hz⟩ := hI
                refine Wc.fix (k := 1) e1 ?_
                refine Wc.fix (k := 2) e2 ?_
                refine Wc.fix (k := 42) e42 ?_
                refine Wc.fix (k := 43) e43 ?_
                refine Wc.fix (k := 44) e44 ?_
                refine Wc.seq ?_
                refine Wc.reg ?_
                refine Wo.op (Step.lss rfl rfl) ?_
                refine Wo.nil ?_
                refine Wc.seq ?_
                refine Wc.ite rfl (fun hc45 => ?_) (fun hc45 => ?_)
                · skip
                  refine Wc.skip ?_
                  refine Wc.seq ?_
                  refine Wc.block ?_
                  refine Wc.seq ?_
                  refine Wc.reg ?_
                  refine Wo.op (Step.move (by conv => lhs; whnf)) ?_
                  refine Wo.idxS rfl (hB.at H hPN) rfl (by first | omega | (simp; omega)) (by first | omega | (simp; omega)) ?_
                  intro p47
                  refine Wo.op (Step.move (by conv => lhs; whnf)) ?_
                  refine Wo.op (Step.move (by conv => lhs; whnf)) ?_
                  refine Wo.nil ?_
                  refine Wc.seq ?_
                  refine Wc.reg ?_
                  refine Wo.op (Step.move (by conv => lhs; whnf)) ?_
                  refine Wo.op (Step.move (by conv => lhs; whnf)) ?_
                  -- call word_Valid
                  have hgl := hb _ (gets_mem' (xs := bs) (i := i) (by omega))
                  refine Wo.call (Wf.mono (word_Valid_ok (w := gets bs ((i : Nat) : Int)) (k := L) hL (by omega)) ?_)
                  rintro _ _ ⟨rfl, rfl⟩
                  refine Wo.op (Step.notD rfl) ?_
                  refine Wo.op (Step.move (by conv => lhs; whnf)) ?_
                  refine Wo.cases (j := 53) rfl (fun hc53 => ?_) (fun hc53 => ?_)
                  · skip
                    refine Wo.off rfl rfl ?_
                    refine Wo.off rfl rfl ?_
                    refine Wo.off rfl rfl ?_
                    refine Wo.offU rfl ?_
                    refine Wo.offU rfl ?_
                    refine Wo.offU rfl ?_
                    refine Wo.offU rfl ?_
                    refine Wo.offU rfl ?_
                    refine Wo.offU rfl ?_
                    refine Wo.off rfl rfl ?_
                    refine Wo.off rfl rfl ?_
                    refine Wo.offU rfl ?_
                    refine Wo.offU rfl ?_
                    refine Wo.off rfl rfl ?_
                    refine Wo.op (Step.pickT rfl (by conv => lhs; whnf)) ?_
                    refine Wo.nil ?_
                    refine Wc.yes rfl ?_
                    refine Wc.seq ?_
                    refine Wc.reg ?_
                    refine Wo.op (Step.move (by conv => lhs; whnf)) ?_
                    refine Wo.nil ?_
                    refine Wc.ret ⟨_, Rs.tmp (by conv => lhs; whnf) (Rs.nil), ?_⟩
                    exact ⟨congrArg (Value.int .i64) (validP_bad (by omega) (by omega) (by omega) (show i < bs.length by omega) (fun h => hc53 h.1)).symm, H.topur⟩
                  · skip
                    refine Wo.on rfl ?_
                    refine Wo.op (Step.move (by conv => lhs; whnf)) ?_
                    refine Wo.on rfl ?_
                    refine Wo.op (Step.gtr (b := 0) rfl rfl) ?_
                    refine Wo.on rfl ?_
                    refine Wo.op (Step.move (by conv => lhs; whnf)) ?_
                    refine Wo.cases (j := 56) rfl (fun hc56 => ?_) (fun hc56 => ?_)
                    · skip
                      refine Wo.on rfl ?_
                      refine Wo.op (Step.move (by conv => lhs; whnf)) ?_
                      refine Wo.on rfl ?_
                      refine Wo.op (Step.faddr rfl) ?_
                      refine Wo.on rfl ?_
                      refine Wo.op (Step.load rfl (H.row 0 rfl) (by rfl)) ?_
                      refine Wo.on rfl ?_
                      refine Wo.op (Step.lenSl rfl (hB.at H hPN)) ?_
                      refine Wo.on rfl ?_
                      refine Wo.op (Step.sub (b := 1) rfl rfl (by omega)) ?_
                      refine Wo.on rfl ?_
                      refine Wo.op (Step.lss rfl rfl) ?_
                      refine Wo.on rfl ?_
                      refine Wo.op (Step.pickT rfl (by conv => lhs; whnf)) ?_
                      refine Wo.on rfl ?_
                      refine Wo.op (Step.move (by conv => lhs; whnf)) ?_
                      refine Wo.cases (j := 64) rfl (fun hc64 => ?_) (fun hc64 => ?_)
                      · skip
                        refine Wo.on rfl ?_
                        refine Wo.op (Step.move (by conv => lhs; whnf)) ?_
                        refine Wo.on rfl ?_
                        refine Wo.op (Step.seql rfl rfl) ?_
                        refine Wo.on rfl ?_
                        refine Wo.op (Step.pickT rfl (by conv => lhs; whnf)) ?_
                        refine Wo.op (Step.pickF rfl (by conv => lhs; whnf)) ?_
                        refine Wo.nil ?_
                        refine Wc.ite rfl (fun hc68 => ?_) (fun hc68 => ?_)
                        · skip
                          refine Wc.seq ?_
                          refine Wc.reg ?_
                          refine Wo.op (Step.move (by conv => lhs; whnf)) ?_
                          refine Wo.nil ?_
                          refine Wc.ret ⟨_, Rs.tmp (by conv => lhs; whnf) (Rs.nil), ?_⟩
                          exact ⟨congrArg (Value.int .i64) (validP_bad (by omega) (by omega) (by omega) (show i < bs.length by omega) (fun h => h.2 ⟨by omega, by omega, hc68⟩)).symm, H.topur⟩
                        · skip
                          refine Wc.skip ?_
                          refine Wc.reg ?_
                          refine Wo.op (Step.add (b := 1) rfl rfl (by omega)) ?_
                          refine Wo.op (Step.move (by conv => lhs; whnf)) ?_
                          refine Wo.nil ?_
                          have hok : BlkOk L bs i := ⟨Classical.not_not.1 hc53, fun h => by obtain ⟨h1, h2, h3⟩ := h; first | omega | exact hc68 h3⟩
                          refine ⟨_, ?_, i + 1, rfl, rfl, rfl, rfl, rfl, rfl, H, by omega, by intro j hj; by_cases e : j = i; subst e; exact hok; exact hz j (by omega)⟩
                          omega
                      · skip
                        refine Wo.off rfl rfl ?_
                        refine Wo.off rfl rfl ?_
                        refine Wo.on rfl ?_
                        refine Wo.op (Step.pickF rfl (by conv => lhs; whnf)) ?_
                        refine Wo.op (Step.pickF rfl (by conv => lhs; whnf)) ?_
                        refine Wo.nil ?_
                        refine Wc.no rfl ?_
                        refine Wc.skip ?_
                        refine Wc.reg ?_
                        refine Wo.op (Step.add (b := 1) rfl rfl (by omega)) ?_
                        refine Wo.op (Step.move (by conv => lhs; whnf)) ?_
                        refine Wo.nil ?_
                        have hok : BlkOk L bs i := ⟨Classical.not_not.1 hc53, fun h => by obtain ⟨h1, h2, h3⟩ := h; first | omega | exact hc68 h3⟩
                        refine ⟨_, ?_, i + 1, rfl, rfl, rfl, rfl, rfl, rfl, H, by omega, by intro j hj; by_cases e : j = i; subst e; exact hok; exact hz j (by omega)⟩
                        omega
                    · skip
                      refine Wo.off rfl rfl ?_
                      refine Wo.off rfl rfl ?_
                      refine Wo.off rfl rfl ?_
                      refine Wo.off rfl rfl ?_
                      refine Wo.off rfl rfl ?_
                      refine Wo.off rfl rfl ?_
                      refine Wo.on rfl ?_
                      refine Wo.op (Step.pickF rfl (by conv => lhs; whnf)) ?_
                      refine Wo.on rfl ?_
                      refine Wo.op (Step.move (by conv => lhs; whnf)) ?_
                      refine Wo.off rfl rfl ?_
                      refine Wo.off rfl rfl ?_
                      refine Wo.on rfl ?_
                      refine Wo.op (Step.pickF rfl (by conv => lhs; whnf)) ?_
                      refine Wo.op (Step.pickF rfl (by conv => lhs; whnf)) ?_
                      refine Wo.nil ?_
                      refine Wc.no rfl ?_
                      refine Wc.skip ?_
                      refine Wc.reg ?_
                      refine Wo.op (Step.add (b := 1) rfl rfl (by omega)) ?_
                      refine Wo.op (Step.move (by conv => lhs; whnf)) ?_
                      refine Wo.nil ?_
                      have hok : BlkOk L bs i := ⟨Classical.not_not.1 hc53, fun h => by obtain ⟨h1, h2, h3⟩ := h; first | omega | exact hc68 h3⟩
                      refine ⟨_, ?_, i + 1, rfl, rfl, rfl, rfl, rfl, rfl, H, by omega, by intro j hj; by_cases e : j = i; subst e; exact hok; exact hz j (by omega)⟩
                      omega
                · skip
                  refine Wc.exit ?_
                  refine .inl ⟨rfl, ?_⟩
                  exact ⟨H, fun j hj => hz j (by omega)⟩
              · intro ρx2 sx2 hP
                obtain ⟨H, hz⟩ := hP
                show Wc _ _ _ _ _ _ _
                refine Wc.seq ?_
                refine Wc.reg ?_
                refine Wo.op (Step.move (by conv => lhs; whnf)) ?_
                refine Wo.nil ?_
                refine Wc.ret ⟨_, Rs.tmp (by conv => lhs; whnf) (Rs.nil), ?_⟩
                exact ⟨congrArg (Value.int .i64) (by unfold validP; rw [if_neg (by omega), if_neg (by omega), if_neg (by omega), if_pos hz]; rfl), H.topur⟩
theorem ref33_Validate_ok {s : St} {P : Nat → Prop} {vB : Value} {bs : List (List UInt8)} {L : Int} (hB : IsStrs s P vB bs) (hPN : ∀ A, P A → A < s.nextId) (hL : I64 L) (hln : bs.length ≤ 281474976710656) (hb : ∀ b, b ∈ bs → b.length ≤ 281474976710656) (h20 : bs.length ≤ 1000) :
    Wf kprog n_ref33_Validate [.agg ⟨[vB]⟩, .int .i64 L] s (fun v s' => v = .int .i64 (validP L bs) ∧ Pur s s') := by
  have H := Hs.start s
  have htt := fun i => tot_take hb i
  have ht0 := tot_le hb
  refine Wf.of p_ref33_Validate rfl ?_
  unfold c_ref33_Validate
  refine Wc.seq ?_
  refine Wc.reg ?_
  refine Wo.boxH H (by conv => lhs; whnf) ?_
  intro sB2 H nB2
  refine Wo.op (Step.move (by conv => lhs; whnf)) ?_
  refine Wo.nil ?_
  refine Wc.seq ?_
  refine Wc.seq ?_
  refine Wc.reg ?_
  refine Wo.op (Step.move (by conv => lhs; whnf)) ?_
  -- call ref01_MayLetters
  refine Wo.call (Wf.mono (ref01_MayLetters_ok) ?_)
  rintro _ _ ⟨rfl, rfl⟩
  refine Wo.op (Step.notD rfl) ?_
  refine Wo.nil ?_
  refine Wc.ite rfl (fun hc12 => ?_) (fun hc12 => ?_)
  · skip
    refine Wc.seq ?_
    refine Wc.reg ?_
    refine Wo.op (Step.move (by conv => lhs; whnf)) ?_
    refine Wo.nil ?_
    refine Wc.ret ⟨_, Rs.tmp (by conv => lhs; whnf) (Rs.nil), ?_⟩
    exact ⟨congrArg (Value.int .i64) (by unfold validP; rw [if_pos (by omega)]; rfl), H.topur⟩
  · skip
    refine Wc.skip ?_
    refine Wc.seq ?_
    refine Wc.reg ?_
    refine Wo.op (Step.move (by conv => lhs; whnf)) ?_
    refine Wo.nil ?_
    refine Wc.seq ?_
    refine Wc.seq ?_
    refine Wc.reg ?_
    refine Wo.op (Step.faddr rfl) ?_
    refine Wo.op (Step.load rfl (H.row 0 rfl) (by rfl)) ?_
    refine Wo.op (Step.lenSl rfl (hB.at H hPN)) ?_
    refine Wo.op (Step.move (by conv => lhs; whnf)) ?_
    refine Wo.nil ?_
    refine Wc.mid (fun ρ' s' => (ρ' 1 = .int .i64 L) ∧ (ρ' 2 = ptrV s.nextId 0) ∧ (ρ' 5 = .int .i64 ((tot bs : Nat) : Int)) ∧ (Hs s.nextId s s' [Item.own s.nextId 0 [vB]])) (Wc.block (Wc.loop (fun m ρ' s' => ∃ (i : Nat), (ρ' 1 = .int .i64 L) ∧ (ρ' 2 = ptrV s.nextId 0) ∧ (ρ' 5 = .int .i64 ((tot (bs.take i) : Nat) : Int)) ∧ (ρ' 14 = vB) ∧ (ρ' 15 = .int .i64 ((bs.length : Nat) : Int)) ∧ (ρ' 16 = .int .i64 ((i : Nat) : Int)) ∧ m = bs.length - i ∧ (Hs s.nextId s s' [Item.own s.nextId 0 [vB]]) ∧ (i ≤ bs.length)) ?_ ?_)) ?_
    · skip
      exact ⟨_, 0, rfl, rfl, rfl, rfl, rfl, rfl, rfl, H, by omega⟩
    · intro m0 ρ0 s0 hI
      obtain ⟨i, e1, e2, e5, e14, e15, e16, hm0, H, hi⟩ := hI
      refine Wc.fix (k := 1) e1 ?_
      refine Wc.fix (k := 2) e2 ?_
      refine Wc.fix (k := 5) e5 ?_
      refine Wc.fix (k := 14) e14 ?_
      refine Wc.fix (k := 15) e15 ?_
      refine Wc.fix (k := 16) e16 ?_
      have hti := htt i
      refine Wc.seq ?_
      refine Wc.reg ?_
      refine Wo.op (Step.lss rfl rfl) ?_
      refine Wo.nil ?_
      refine Wc.seq ?_
      refine Wc.ite rfl (fun hc17 => ?_) (fun hc17 => ?_)
      · skip
        refine Wc.skip ?_
        refine Wc.seq ?_
        refine Wc.block ?_
        refine Wc.seq ?_
        refine Wc.reg ?_
        refine Wo.idxS rfl (hB.at H hPN) rfl (by first | omega | (simp; omega)) (by first | omega | (simp; omega)) ?_
        intro p18
        refine Wo.op (Step.move (by conv => lhs; whnf)) ?_
        refine Wo.nil ?_
        refine Wc.reg ?_
        refine Wo.op (Step.move (by conv => lhs; whnf)) ?_
        refine Wo.op (Step.move (by conv => lhs; whnf)) ?_
        refine Wo.op (Step.lenStrG rfl) ?_
        have hgl := hb _ (gets_mem' (xs := bs) (i := i) (by omega))
        refine Wo.op (Step.add rfl rfl (by omega)) ?_
        refine Wo.op (Step.move (by conv => lhs; whnf)) ?_
        refine Wo.nil ?_
        refine Wc.reg ?_
        refine Wo.op (Step.add (b := 1) rfl rfl (by omega)) ?_
        refine Wo.op (Step.move (by conv => lhs; whnf)) ?_
        refine Wo.nil ?_
        have htk : tot (bs.take (i + 1)) = tot (bs.take i) + (gets bs (i : Nat)).length := by rw [take_gets (by omega), tot_snoc]
        exact ⟨_, by omega, i + 1, rfl, rfl, congrArg (Value.int .i64) (by rw [htk]; omega), rfl, rfl, rfl, rfl, H, by omega⟩
      · skip
        refine Wc.exit ?_
        refine .inl ⟨rfl, ?_⟩
        have e : i = bs.length := by omega
        subst e
        rw [List.take_length] at e5
        exact ⟨rfl, rfl, by rw [List.take_length]; rfl, H⟩
    · intro ρx0 sx0 hP
      obtain ⟨e1, e2, h5, H⟩ := hP
      show Wc _ _ _ _ _ _ _
      refine Wc.fix (k := 1) e1 ?_
      refine Wc.fix (k := 2) e2 ?_
      refine Wc.fix (k := 5) h5 ?_
      refine Wc.seq ?_
      refine Wc.seq ?_
      refine Wc.reg ?_
      refine Wo.op (Step.faddr rfl) ?_
      refine Wo.op (Step.load rfl (H.row 0 rfl) (by rfl)) ?_
      refine Wo.op (Step.lenSl rfl (hB.at H hPN)) ?_
      refine Wo.op (Step.gtr (b := 8) rfl rfl) ?_
      refine Wo.op (Step.move (by conv => lhs; whnf)) ?_
      refine Wo.cases (j := 29) rfl (fun hc29 => ?_) (fun hc29 => ?_)
      · skip
        refine Wo.off rfl rfl ?_
        refine Wo.off rfl rfl ?_
        refine Wo.op (Step.pickT rfl (by conv => lhs; whnf)) ?_
        refine Wo.nil ?_
        refine Wc.yes rfl ?_
        refine Wc.seq ?_
        refine Wc.reg ?_
        refine Wo.op (Step.move (by conv => lhs; whnf)) ?_
        refine Wo.nil ?_
        refine Wc.ret ⟨_, Rs.tmp (by conv => lhs; whnf) (Rs.nil), ?_⟩
        exact ⟨congrArg (Value.int .i64) (by unfold validP; rw [if_neg (by omega), if_pos (by omega)]; rfl), H.topur⟩
      · skip
        refine Wo.on rfl ?_
        refine Wo.op (Step.move (by conv => lhs; whnf)) ?_
        refine Wo.on rfl ?_
        refine Wo.op (Step.gtr (b := 64) rfl rfl) ?_
        refine Wo.op (Step.pickF rfl (by conv => lhs; whnf)) ?_
        refine Wo.nil ?_
        refine Wc.ite rfl (fun hc32 => ?_) (fun hc32 => ?_)
        · skip
          refine Wc.seq ?_
          refine Wc.reg ?_
          refine Wo.op (Step.move (by conv => lhs; whnf)) ?_
          refine Wo.nil ?_
          refine Wc.ret ⟨_, Rs.tmp (by conv => lhs; whnf) (Rs.nil), ?_⟩
          exact ⟨congrArg (Value.int .i64) (by unfold validP; rw [if_neg (by omega), if_pos (by omega)]; rfl), H.topur⟩
        · skip
          refine Wc.skip ?_
          refine Wc.seq ?_
          refine Wc.seq ?_
          refine Wc.reg ?_
          refine Wo.op (Step.faddr rfl) ?_
          refine Wo.op (Step.load rfl (H.row 0 rfl) (by rfl)) ?_
          refine Wo.op (Step.lenSl rfl (hB.at H hPN)) ?_
          refine Wo.op (Step.eql (b := 0) rfl rfl) ?_
          refine Wo.nil ?_
          refine Wc.ite rfl (fun hc36 => ?_) (fun hc36 => ?_)
          · skip
            refine Wc.seq ?_
            refine Wc.reg ?_
            refine Wo.op (Step.move (by conv => lhs; whnf)) ?_
            refine Wo.nil ?_
            refine Wc.ret ⟨_, Rs.tmp (by conv => lhs; whnf) (Rs.nil), ?_⟩
            exact ⟨congrArg (Value.int .i64) (by unfold validP; rw [if_neg (by omega), if_neg (by omega), if_pos (by omega)]; rfl), H.topur⟩
          · skip
            refine Wc.skip ?_
            refine Wc.seq ?_
            refine Wc.seq ?_
            refine Wc.reg ?_
            refine Wo.op (Step.faddr rfl) ?_
            refine Wo.op (Step.load rfl (H.row 0 rfl) (by rfl)) ?_
            refine Wo.op (Step.lenSl rfl (hB.at H hPN)) ?_
            refine Wo.op (Step.move (by conv => lhs; whnf)) ?_
            refine Wo.nil ?_
            refine Wc.mid (fun ρ' s' => (Hs s.nextId s s' [Item.own s.nextId 0 [vB]]) ∧ (∀ j, j < bs.length → BlkOk L bs j)) (Wc.block (Wc.loop (fun m ρ' s' => ∃ (i : Nat), (ρ' 1 = .int .i64 L) ∧ (ρ' 2 = ptrV s.nextId 0) ∧ (ρ' 38 = vB) ∧ (ρ' 39 = .int .i64 ((bs.length : Nat) : Int)) ∧ (ρ' 40 = .int .i64 ((i : Nat) : Int)) ∧ m = bs.length - i ∧ (Hs s.nextId s s' [Item.own s.nextId 0 [vB]]) ∧ (i ≤ bs.length) ∧ (∀ j, j < i → BlkOk L bs j)) ?_ ?_)) ?_
            · skip
              exact ⟨_, 0, rfl, rfl, rfl, rfl, rfl, rfl, H, by omega, by intro j hj; omega⟩
            · intro m2 ρ2 s2 hI
              obtain ⟨i, e1, e2, e38, e39, e40, hm2, H, hi, hz⟩ := hI
              refine Wc.fix (k := 1) e1 ?_
              refine Wc.fix (k := 2) e2 ?_
              refine Wc.fix (k := 38) e38 ?_
              refine Wc.fix (k := 39) e39 ?_
              refine Wc.fix (k := 40) e40 ?_
              refine Wc.seq ?_
              refine Wc.reg ?_
              refine Wo.op (Step.lss rfl rfl) ?_
              refine Wo.nil ?_
              refine Wc.seq ?_
              refine Wc.ite rfl (fun hc41 => ?_) (fun hc41 => ?_)
              · skip
                refine Wc.skip ?_
                refine Wc.seq ?_
                refine Wc.block ?_
                refine Wc.seq ?_
                refine Wc.reg ?_
                refine Wo.op (Step.move (by conv => lhs; whnf)) ?_
                refine Wo.idxS rfl (hB.at H hPN) rfl (by first | omega | (simp; omega)) (by first | omega | (simp; omega)) ?_
                intro p43
                refine Wo.op (Step.move (by conv => lhs; whnf)) ?_
                refine Wo.op (Step.move (by conv => lhs; whnf)) ?_
                refine Wo.nil ?_
                refine Wc.seq ?_
                refine Wc.reg ?_
                refine Wo.op (Step.move (by conv => lhs; whnf)) ?_
                refine Wo.op (Step.move (by conv => lhs; whnf)) ?_
                -- call ref01_Valid
                have hgl := hb _ (gets_mem' (xs := bs) (i := i) (by omega))
                refine Wo.call (Wf.mono (ref01_Valid_ok (w := gets bs ((i : Nat) : Int)) (k := L) hL (by omega)) ?_)
                rintro _ _ ⟨rfl, rfl⟩
                refine Wo.op (Step.notD rfl) ?_
                refine Wo.op (Step.move (by conv => lhs; whnf)) ?_
                refine Wo.cases (j := 49) rfl (fun hc49 => ?_) (fun hc49 => ?_)
                · skip
                  refine Wo.off rfl rfl ?_
                  refine Wo.off rfl rfl ?_
                  refine Wo.off rfl rfl ?_
                  refine Wo.offU rfl ?_
                  refine Wo.offU rfl ?_
                  refine Wo.off rfl rfl ?_
                  refine Wo.off rfl rfl ?_
                  refine Wo.offU rfl ?_
                  refine Wo.offU rfl ?_
                  refine Wo.offU rfl ?_
                  refine Wo.offU rfl ?_
                  refine Wo.offU rfl ?_
                  refine Wo.offU rfl ?_
                  refine Wo.off rfl rfl ?_
                  refine Wo.op (Step.pickT rfl (by conv => lhs; whnf)) ?_
                  refine Wo.nil ?_
                  refine Wc.yes rfl ?_
                  refine Wc.seq ?_
                  refine Wc.reg ?_
                  refine Wo.op (Step.move (by conv => lhs; whnf)) ?_
                  refine Wo.nil ?_
                  refine Wc.ret ⟨_, Rs.tmp (by conv => lhs; whnf) (Rs.nil), ?_⟩
                  exact ⟨congrArg (Value.int .i64) (validP_bad (by omega) (by omega) (by omega) (show i < bs.length by omega) (fun h => hc49 h.1)).symm, H.topur⟩
                · skip
                  refine Wo.on rfl ?_
                  refine Wo.op (Step.move (by conv => lhs; whnf)) ?_
                  refine Wo.on rfl ?_
                  refine Wo.op (Step.seql rfl rfl) ?_
                  refine Wo.on rfl ?_
                  refine Wo.op (Step.move (by conv => lhs; whnf)) ?_
                  refine Wo.cases (j := 52) rfl (fun hc52 => ?_) (fun hc52 => ?_)
                  · skip
                    refine Wo.on rfl ?_
                    refine Wo.op (Step.move (by conv => lhs; whnf)) ?_
                    refine Wo.on rfl ?_
                    refine Wo.op (Step.gtr (b := 0) rfl rfl) ?_
                    refine Wo.on rfl ?_
                    refine Wo.op (Step.pickT rfl (by conv => lhs; whnf)) ?_
                    refine Wo.on rfl ?_
                    refine Wo.op (Step.move (by conv => lhs; whnf)) ?_
                    refine Wo.cases (j := 56) rfl (fun hc56 => ?_) (fun hc56 => ?_)
                    · skip
                      refine Wo.on rfl ?_
                      refine Wo.op (Step.move (by conv => lhs; whnf)) ?_
                      refine Wo.on rfl ?_
                      refine Wo.op (Step.faddr rfl) ?_
                      refine Wo.on rfl ?_
                      refine Wo.op (Step.load rfl (H.row 0 rfl) (by rfl)) ?_
                      refine Wo.on rfl ?_
                      refine Wo.op (Step.lenSl rfl (hB.at H hPN)) ?_
                      refine Wo.on rfl ?_
                      refine Wo.op (Step.sub (b := 1) rfl rfl (by omega)) ?_
                      refine Wo.on rfl ?_
                      refine Wo.op (Step.lss rfl rfl) ?_
                      refine Wo.on rfl ?_
                      refine Wo.op (Step.pickT rfl (by conv => lhs; whnf)) ?_
                      refine Wo.op (Step.pickF rfl (by conv => lhs; whnf)) ?_
                      refine Wo.nil ?_
                      refine Wc.ite rfl (fun hc64 => ?_) (fun hc64 => ?_)
                      · skip
                        refine Wc.seq ?_
                        refine Wc.reg ?_
                        refine Wo.op (Step.move (by conv => lhs; whnf)) ?_
                        refine Wo.nil ?_
                        refine Wc.ret ⟨_, Rs.tmp (by conv => lhs; whnf) (Rs.nil), ?_⟩
                        exact ⟨congrArg (Value.int .i64) (validP_bad (by omega) (by omega) (by omega) (show i < bs.length by omega) (fun h => h.2 ⟨by omega, by omega, hc52⟩)).symm, H.topur⟩
                      · skip
                        refine Wc.skip ?_
                        refine Wc.reg ?_
                        refine Wo.op (Step.add (b := 1) rfl rfl (by omega)) ?_
                        refine Wo.op (Step.move (by conv => lhs; whnf)) ?_
                        refine Wo.nil ?_
                        have hok : BlkOk L bs i := ⟨Classical.not_not.1 hc49, fun h => by obtain ⟨h1, h2, h3⟩ := h; first | omega | exact hc52 h3⟩
                        refine ⟨_, ?_, i + 1, rfl, rfl, rfl, rfl, rfl, rfl, H, by omega, by intro j hj; by_cases e : j = i; subst e; exact hok; exact hz j (by omega)⟩
                        omega
                    · skip
                      refine Wo.off rfl rfl ?_
                      refine Wo.off rfl rfl ?_
                      refine Wo.off rfl rfl ?_
                      refine Wo.off rfl rfl ?_
                      refine Wo.off rfl rfl ?_
                      refine Wo.off rfl rfl ?_
                      refine Wo.on rfl ?_
                      refine Wo.op (Step.pickF rfl (by conv => lhs; whnf)) ?_
                      refine Wo.op (Step.pickF rfl (by conv => lhs; whnf)) ?_
                      refine Wo.nil ?_
                      refine Wc.no rfl ?_
                      refine Wc.skip ?_
                      refine Wc.reg ?_
                      refine Wo.op (Step.add (b := 1) rfl rfl (by omega)) ?_
                      refine Wo.op (Step.move (by conv => lhs; whnf)) ?_
                      refine Wo.nil ?_
                      have hok : BlkOk L bs i := ⟨Classical.not_not.1 hc49, fun h => by obtain ⟨h1, h2, h3⟩ := h; first | omega | exact hc52 h3⟩
                      refine ⟨_, ?_, i + 1, rfl, rfl, rfl, rfl, rfl, rfl, H, by omega, by intro j hj; by_cases e : j = i; subst e; exact hok; exact hz j (by omega)⟩
                      omega
                  · skip
                    refine Wo.off rfl rfl ?_
                    refine Wo.off rfl rfl ?_
                    refine Wo.on rfl ?_
                    refine Wo.op (Step.pickF rfl (by conv => lhs; whnf)) ?_
                    refine Wo.on rfl ?_
                    refine Wo.op (Step.move (by conv => lhs; whnf)) ?_
                    refine Wo.off rfl rfl ?_
                    refine Wo.off rfl rfl ?_
                    refine Wo.off rfl rfl ?_
                    refine Wo.off rfl rfl ?_
                    refine Wo.off rfl rfl ?_
                    refine Wo.off rfl rfl ?_
                    refine Wo.on rfl ?_
                    refine Wo.op (Step.pickF rfl (by conv => lhs; whnf)) ?_
                    refine Wo.op (Step.pickF rfl (by conv => lhs; whnf)) ?_
                    refine Wo.nil ?_
                    refine Wc.no rfl ?_
                    refine Wc.skip ?_
                    refine Wc.reg ?_
                    refine Wo.op (Step.add (b := 1) rfl rfl (by omega)) ?_
                    refine Wo.op (Step.move (by conv => lhs; whnf)) ?_
                    refine Wo.nil ?_
                    have hok : BlkOk L bs i := ⟨Classical.not_not.1 hc49, fun h => by obtain ⟨h1, h2, h3⟩ := h; first | omega | exact hc52 h3⟩
                    refine ⟨_, ?_, i + 1, rfl, rfl, rfl, rfl, rfl, rfl, H, by omega, by intro j hj; by_cases e : j = i; subst e; exact hok; exact hz j (by omega)⟩
                    omega
              · skip
                refine Wc.exit ?_
                refine .inl ⟨rfl, ?_⟩
                exact ⟨H, fun j hj => hz j (by omega)⟩
            · intro ρx2 sx2 hP
              obtain ⟨H, hz⟩ := hP
              show Wc _ _ _ _ _ _ _
              refine Wc.seq ?_
              refine Wc.reg ?_
              refine Wo.op (Step.move (by conv => lhs; whnf)) ?_
              refine Wo.nil ?_
              refine Wc.ret ⟨_, Rs.tmp (by conv => lhs; whnf) (Rs.nil), ?_⟩
              exact ⟨congrArg (Value.int .i64) (by unfold validP; rw [if_neg (by omega), if_neg (by omega), if_neg (by omega), if_pos hz]; rfl), H.topur⟩
end Go.EvK
end

section
set_option linter.unusedVariables false
set_option maxRecDepth 100000
set_option maxHeartbeats 4000000
namespace Go.EvK
open Go Go.Ev Go.EvW Go.Co
theorem pattern_runner_clean_ok {s : St} {P : Nat → Prop} {vG : Value} {gap : List Bool} {al xs : List UInt8} {A : Nat} (hG : IsBools s P vG gap) (hPN : ∀ B, P B → B < A) (ho : Own s A 1 (enU xs)) (hl : xs.length = gap.length) (hn : xs.length ≤ 1000000) :
    Wf kprog n_pattern_runner_clean [.agg ⟨[.string ⟨⟨al⟩⟩, vG]⟩, .slice (some ⟨A, 0, none⟩) xs.length xs.length] s (fun v s' => v = .string ⟨⟨zeroP xs (lastP gap xs xs.length)⟩⟩ ∧ Ext A s s') := by
  have H := Hs.start s
  have hA := ho.1
  have H : Hs A s s [Item.own A 1 (enU xs)] := ⟨Chg.refl _, by omega, fun i x h => by
    rcases i with _ | i <;> simp at h
    subst h; exact ho, fun i x h B hB => by
    rcases i with _ | i <;> simp at h
    subst h; rw [List.mem_singleton.1 hB]; exact Nat.le_refl _, fun i j x y hij hx hy => by
    have h1 := (List.getElem?_eq_some_iff.1 hx).1
    have h2 := (List.getElem?_eq_some_iff.1 hy).1
    simp at h1 h2; omega⟩
  refine Wf.of p_pattern_runner_clean rfl ?_
  unfold c_pattern_runner_clean
  refine Wc.seq ?_
  refine Wc.reg ?_
  refine Wo.boxH H (by conv => lhs; whnf) ?_
  intro sB2 H nB2
  refine Wo.op (Step.move (by conv => lhs; whnf)) ?_
  refine Wo.nil ?_
  refine Wc.seq ?_
  refine Wc.reg ?_
  refine Wo.op (Step.move (by conv => lhs; whnf)) ?_
  refine Wo.nil ?_
  refine Wc.seq ?_
  refine Wc.seq ?_
  refine Wc.reg ?_
  refine Wo.op (Step.move (by conv => lhs; whnf)) ?_
  refine Wo.op (Step.lenS rfl) ?_
  refine Wo.op (Step.move (by conv => lhs; whnf)) ?_
  refine Wo.nil ?_
  refine Wc.mid (fun ρ' s' => (ρ' 1 = .slice (some ⟨A, 0, none⟩) xs.length xs.length) ∧ (ρ' 2 = ptrV s.nextId 0) ∧ (ρ' 5 = .int .i64 ((lastP gap xs xs.length : Nat) : Int)) ∧ (Hs A s s' [Item.own A 1 (enU xs), Item.own s.nextId 0 [.string ⟨⟨al⟩⟩, vG]])) (Wc.block (Wc.loop (fun m ρ' s' => ∃ (i : Nat), (ρ' 1 = .slice (some ⟨A, 0, none⟩) xs.length xs.length) ∧ (ρ' 2 = ptrV s.nextId 0) ∧ (ρ' 5 = .int .i64 ((lastP gap xs i : Nat) : Int)) ∧ (ρ' 9 = .slice (some ⟨A, 0, none⟩) xs.length xs.length) ∧ (ρ' 10 = .int .i64 ((xs.length : Nat) : Int)) ∧ (ρ' 11 = .int .i64 ((i : Nat) : Int)) ∧ m = xs.length - i ∧ (Hs A s s' [Item.own A 1 (enU xs), Item.own s.nextId 0 [.string ⟨⟨al⟩⟩, vG]]) ∧ (i ≤ xs.length)) ?_ ?_)) ?_
  · skip
    exact ⟨_, 0, rfl, rfl, rfl, rfl, rfl, rfl, rfl, H, by omega⟩
  · intro m0 ρ0 s0 hI
    obtain ⟨i, e1, e2, e5, e9, e10, e11, hm0, H, hi⟩ := hI
    refine Wc.fix (k := 1) e1 ?_
    refine Wc.fix (k := 2) e2 ?_
    refine Wc.fix (k := 5) e5 ?_
    refine Wc.fix (k := 9) e9 ?_
    refine Wc.fix (k := 10) e10 ?_
    refine Wc.fix (k := 11) e11 ?_
    refine Wc.seq ?_
    refine Wc.reg ?_
    refine Wo.op (Step.lss rfl rfl) ?_
    refine Wo.nil ?_
    refine Wc.seq ?_
    refine Wc.ite rfl (fun hc12 => ?_) (fun hc12 => ?_)
    · skip
      refine Wc.skip ?_
      refine Wc.seq ?_
      refine Wc.block ?_
      refine Wc.seq ?_
      refine Wc.reg ?_
      refine Wo.op (Step.move (by conv => lhs; whnf)) ?_
      refine Wo.idxU rfl (H.urow 0 (by rfl) (by first | rfl | omega | (simp; done) | (simp; omega) | (simp; done) | (simp; omega))) rfl (by first | omega | (simp; omega)) (by first | omega | (simp; omega)) ?_
      intro p14
      refine Wo.op (Step.move (by conv => lhs; whnf)) ?_
      refine Wo.op (Step.move (by conv => lhs; whnf)) ?_
      refine Wo.nil ?_
      refine Wc.seq ?_
      refine Wc.reg ?_
      refine Wo.op (Step.move (by conv => lhs; whnf)) ?_
      refine Wo.op (Step.eql (b := 1) rfl rfl) ?_
      refine Wo.op (Step.move (by conv => lhs; whnf)) ?_
      refine Wo.cases (j := 18) rfl (fun hc18 => ?_) (fun hc18 => ?_)
      · skip
        refine Wo.on rfl ?_
        refine Wo.op (Step.faddr rfl) ?_
        refine Wo.on rfl ?_
        refine Wo.op (Step.load rfl (H.row 1 rfl) (by rfl)) ?_
        refine Wo.on rfl ?_
        refine Wo.op (Step.move (by conv => lhs; whnf)) ?_
        refine Wo.on2 rfl (by decide) ?_
        refine Wo.idxB rfl (hG.at H hPN) rfl (by first | omega | (simp; omega)) (by first | omega | (simp; omega)) ?_
        intro p22
        refine Wo.op (Step.pickT rfl (by conv => lhs; whnf)) ?_
        refine Wo.nil ?_
        refine Wc.iteB rfl (fun hc24 => ?_) (fun hc24 => ?_)
        · skip
          refine Wc.reg ?_
          refine Wo.op (Step.move (by conv => lhs; whnf)) ?_
          refine Wo.op (Step.move (by conv => lhs; whnf)) ?_
          refine Wo.nil ?_
          refine Wc.reg ?_
          refine Wo.op (Step.add (b := 1) rfl rfl (by omega)) ?_
          refine Wo.op (Step.move (by conv => lhs; whnf)) ?_
          refine Wo.nil ?_
          have e : lastP gap xs (i + 1) = i := by simp only [lastP]; rw [if_pos ⟨UInt8.toNat_inj.1 (by show (getu xs (i : Nat)).toNat = 1; omega), hc24⟩]
          exact ⟨_, by omega, i + 1, rfl, rfl, by rw [e]; rfl, rfl, rfl, rfl, rfl, H, by omega⟩
        · skip
          refine Wc.skip ?_
          refine Wc.reg ?_
          refine Wo.op (Step.add (b := 1) rfl rfl (by omega)) ?_
          refine Wo.op (Step.move (by conv => lhs; whnf)) ?_
          refine Wo.nil ?_
          have e : lastP gap xs (i + 1) = lastP gap xs i := by simp only [lastP]; rw [if_neg (fun h => by rw [h.2] at hc24; simp at hc24)]
          exact ⟨_, by omega, i + 1, rfl, rfl, by rw [e]; rfl, rfl, rfl, rfl, rfl, H, by omega⟩
      · skip
        refine Wo.off rfl rfl ?_
        refine Wo.off rfl rfl ?_
        refine Wo.off rfl rfl ?_
        refine Wo.off rfl rfl ?_
        refine Wo.off rfl rfl ?_
        refine Wo.op (Step.pickF rfl (by conv => lhs; whnf)) ?_
        refine Wo.nil ?_
        refine Wc.no rfl ?_
        refine Wc.skip ?_
        refine Wc.reg ?_
        refine Wo.op (Step.add (b := 1) rfl rfl (by omega)) ?_
        refine Wo.op (Step.move (by conv => lhs; whnf)) ?_
        refine Wo.nil ?_
        have e : lastP gap xs (i + 1) = lastP gap xs i := by simp only [lastP]; rw [if_neg (fun h => hc18 (by rw [h.1]; rfl))]
        exact ⟨_, by omega, i + 1, rfl, rfl, by rw [e]; rfl, rfl, rfl, rfl, rfl, H, by omega⟩
    · skip
      refine Wc.exit ?_
      refine .inl ⟨rfl, ?_⟩
      have e : i = xs.length := by omega
      subst e
      exact ⟨rfl, rfl, rfl, H⟩
  · intro ρx0 sx0 hP
    obtain ⟨e1, e2, e5, H⟩ := hP
    show Wc _ _ _ _ _ _ _
    refine Wc.fix (k := 1) e1 ?_
    refine Wc.fix (k := 2) e2 ?_
    refine Wc.fix (k := 5) e5 ?_
    have hlp := lastP_le gap xs xs.length
    refine Wc.seq ?_
    refine Wc.seq ?_
    refine Wc.reg ?_
    refine Wo.op (Step.move (by conv => lhs; whnf)) ?_
    refine Wo.nil ?_
    refine Wc.mid (fun ρ' s' => (ρ' 1 = .slice (some ⟨A, 0, none⟩) xs.length xs.length) ∧ (Hs A s s' [Item.own A 1 (enU (zeroP xs (lastP gap xs xs.length))), Item.own s.nextId 0 [.string ⟨⟨al⟩⟩, vG]])) (Wc.block (Wc.loop (fun m ρ' s' => ∃ (j : Nat), (ρ' 1 = .slice (some ⟨A, 0, none⟩) xs.length xs.length) ∧ (ρ' 2 = ptrV s.nextId 0) ∧ (ρ' 5 = .int .i64 ((lastP gap xs xs.length : Nat) : Int)) ∧ (ρ' 8 = .int .i64 ((j : Nat) : Int)) ∧ m = lastP gap xs xs.length - j ∧ (Hs A s s' [Item.own A 1 (enU (zeroP xs j)), Item.own s.nextId 0 [.string ⟨⟨al⟩⟩, vG]]) ∧ (j ≤ lastP gap xs xs.length)) ?_ ?_)) ?_
    · skip
      exact ⟨_, 0, rfl, rfl, rfl, rfl, rfl, by rw [show zeroP xs 0 = xs by simp [zeroP]]; exact H, by omega⟩
    · intro m2 ρ2 s2 hI
      obtain ⟨j, e1, e2, e5, e8, hm2, H, hj⟩ := hI
      refine Wc.fix (k := 1) e1 ?_
      refine Wc.fix (k := 2) e2 ?_
      refine Wc.fix (k := 5) e5 ?_
      refine Wc.fix (k := 8) e8 ?_
      have hzl := zeroP_length (xs := xs) (j := j) (by omega)
      refine Wc.seq ?_
      refine Wc.seq ?_
      refine Wc.reg ?_
      refine Wo.op (Step.move (by conv => lhs; whnf)) ?_
      refine Wo.op (Step.move (by conv => lhs; whnf)) ?_
      refine Wo.op (Step.lss rfl rfl) ?_
      refine Wo.nil ?_
      refine Wc.ite rfl (fun hc29 => ?_) (fun hc29 => ?_)
      · skip
        refine Wc.skip ?_
        refine Wc.seq ?_
        refine Wc.block ?_
        refine Wc.reg ?_
        refine Wo.op (Step.move (by conv => lhs; whnf)) ?_
        refine Wo.op (Step.move (by conv => lhs; whnf)) ?_
        refine Wo.setU H 0 (n := 0) rfl rfl (by rfl) (by first | omega | (simp; omega)) (by first | omega | (simp; omega)) (by first | omega | (simp; omega) | (simp; omega) | (simp; done)) rfl ?_ (by simp)
        intro p34 sT34 H nT34
        refine Wo.nil ?_
        refine Wc.reg ?_
        refine Wo.op (Step.move (by conv => lhs; whnf)) ?_
        refine Wo.op (Step.add (b := 1) rfl rfl (by omega)) ?_
        refine Wo.op (Step.move (by conv => lhs; whnf)) ?_
        refine Wo.nil ?_
        rw [Int.toNat_natCast, zeroP_set (by omega)] at H
        refine ⟨_, ?_, j + 1, rfl, rfl, rfl, rfl, rfl, H, by omega⟩
        omega
      · skip
        refine Wc.exit ?_
        refine .inl ⟨rfl, ?_⟩
        have e : j = lastP gap xs xs.length := by omega
        subst e
        exact ⟨rfl, H⟩
    · intro ρx2 sx2 hP
      obtain ⟨e1, H⟩ := hP
      show Wc _ _ _ _ _ _ _
      refine Wc.fix (k := 1) e1 ?_
      have hzl := zeroP_length (xs := xs) (j := lastP gap xs xs.length) (by omega)
      refine Wc.seq ?_
      refine Wc.reg ?_
      refine Wo.op (Step.move (by conv => lhs; whnf)) ?_
      refine Wo.op (Step.strOf rfl (H.urow 0 (by rfl) (by first | rfl | omega | (simp; done) | (simp; omega) | (simp; done) | (simp; omega)))) ?_
      refine Wo.op (Step.move (by conv => lhs; whnf)) ?_
      refine Wo.nil ?_
      refine Wc.ret ⟨_, Rs.tmp (by conv => lhs; whnf) (Rs.nil), ?_⟩
      exact ⟨rfl, H.ext⟩
theorem pattern_runner_start_ok {s : St} {P : Nat → Prop} {vG : Value} {gap : List Bool} {al : List UInt8} (hG : IsBools s P vG gap) (hPN : ∀ B, P B → B < s.nextId) (hg : 1 ≤ gap.length ∧ gap.length ≤ 1000000) :
    Wf kprog n_pattern_runner_start [.agg ⟨[.string ⟨⟨al⟩⟩, vG]⟩] s (fun v s' => v = .string ⟨⟨(List.replicate gap.length 0).set 0 1⟩⟩ ∧ Pur s s') := by
  have H := Hs.start s
  refine Wf.of p_pattern_runner_start rfl ?_
  unfold c_pattern_runner_start
  refine Wc.seq ?_
  refine Wc.reg ?_
  refine Wo.boxH H (by conv => lhs; whnf) ?_
  intro sB1 H nB1
  refine Wo.op (Step.move (by conv => lhs; whnf)) ?_
  refine Wo.nil ?_
  refine Wc.seq ?_
  refine Wc.reg ?_
  refine Wo.op (Step.faddr rfl) ?_
  refine Wo.op (Step.load rfl (H.row 0 rfl) (by rfl)) ?_
  refine Wo.op (Step.lenSl rfl (hG.at H hPN)) ?_
  refine Wo.mkSliceH H rfl rfl (by omega) (by omega) (zeroU _) ?_
  intro sM7 H nM7
  refine Wo.op (Step.move (by conv => lhs; whnf)) ?_
  refine Wo.nil ?_
  refine Wc.seq ?_
  refine Wc.reg ?_
  refine Wo.op (Step.move (by conv => lhs; whnf)) ?_
  refine Wo.setU H 1 (n := 1) rfl rfl (by rfl) (by first | omega | (simp; done) | (simp; omega)) (by first | omega | (simp; done) | (simp; omega)) (by first | omega | (simp; omega) | (simp; omega) | (simp; done)) rfl ?_ (by simp)
  intro p9 sT9 H nT9
  refine Wo.nil ?_
  refine Wc.seq ?_
  refine Wc.reg ?_
  refine Wo.op (Step.move (by conv => lhs; whnf)) ?_
  refine Wo.op (Step.strOf rfl (H.urow 1 (by rfl) (by first | rfl | omega | (simp; done) | (simp; omega) | (simp; done) | (simp; omega)))) ?_
  refine Wo.op (Step.move (by conv => lhs; whnf)) ?_
  refine Wo.nil ?_
  refine Wc.ret ⟨_, Rs.tmp (by conv => lhs; whnf) (Rs.nil), ?_⟩
  exact ⟨rfl, H.topur⟩
theorem pattern_runner_ends_ok {s : St} {P : Nat → Prop} {vG : Value} {gap : List Bool} {al : List UInt8} (hG : IsBools s P vG gap) (hPN : ∀ B, P B → B < s.nextId) {w : List UInt8} (hw : al.length < w.length) :
    Wf kprog n_pattern_runner_ends [.agg ⟨[.string ⟨⟨al⟩⟩, vG]⟩, .string ⟨⟨w⟩⟩] s (fun v s' => v = .bool (decide ((((getu w (al.length : Nat)).toNat : Nat) : Int) = 1)) ∧ Pur s s') := by
  have H := Hs.start s
  refine Wf.of p_pattern_runner_ends rfl ?_
  unfold c_pattern_runner_ends
  refine Wc.seq ?_
  refine Wc.reg ?_
  refine Wo.boxH H (by conv => lhs; whnf) ?_
  intro sB2 H nB2
  refine Wo.op (Step.move (by conv => lhs; whnf)) ?_
  refine Wo.nil ?_
  refine Wc.seq ?_
  refine Wc.reg ?_
  refine Wo.op (Step.move (by conv => lhs; whnf)) ?_
  refine Wo.op (Step.faddr rfl) ?_
  refine Wo.op (Step.load rfl (H.row 0 rfl) (by rfl)) ?_
  refine Wo.op (Step.lenStrG rfl) ?_
  refine Wo.op (Step.idxStrG rfl rfl (by omega) (by omega)) ?_
  refine Wo.op (Step.eql (b := 1) rfl rfl) ?_
  refine Wo.op (Step.move (by conv => lhs; whnf)) ?_
  refine Wo.nil ?_
  refine Wc.ret ⟨_, Rs.tmp (by conv => lhs; whnf) (Rs.nil), ?_⟩
  exact ⟨rfl, H.topur⟩
end Go.EvK
end

section
set_option linter.unusedVariables false
set_option maxRecDepth 100000
set_option maxHeartbeats 4000000
namespace Go.EvK
open Go Go.Ev Go.EvW Go.Co
theorem pattern_run_ok {s : St} {P : Nat → Prop} {vB : Value} {bs : List (List UInt8)} (hB : IsStrs s P vB bs) (hPN : ∀ A, P A → A < s.nextId) (h1 : 1 ≤ bs.length) (h8 : bs.length ≤ 1000) (hT : tot bs ≤ 1000) :
    Wf kprog n_pattern_run [.agg ⟨[vB]⟩] s (fun v s' => ∃ A, v = .agg ⟨[.string ⟨⟨bs.flatten⟩⟩, .slice (some ⟨A, 0, none⟩) (bs.flatten.length + 1) (bs.flatten.length + 1)]⟩ ∧ New s s' [Item.own A 1 (enB (gapN bs (bs.length - 1)))]) := by
  have H := Hs.start s
  have hfl := tot_flat bs
  refine Wf.of p_pattern_run rfl ?_
  unfold c_pattern_run
  refine Wc.seq ?_
  refine Wc.reg ?_
  refine Wo.boxH H (by conv => lhs; whnf) ?_
  intro sB1 H nB1
  refine Wo.allocH H ?_
  intro sB2 H nB2
  refine Wo.nil ?_
  refine Wc.seq ?_
  refine Wc.reg ?_
  refine Wo.allocH H ?_
  intro sB3 H nB3
  refine Wo.nil ?_
  refine Wc.seq ?_
  refine Wc.seq ?_
  refine Wc.reg ?_
  refine Wo.op (Step.faddr rfl) ?_
  refine Wo.op (Step.load rfl (H.row 0 rfl) (by rfl)) ?_
  refine Wo.op (Step.lenSl rfl (hB.at H hPN)) ?_
  refine Wo.op (Step.move (by conv => lhs; whnf)) ?_
  refine Wo.nil ?_
  refine Wc.mid (fun ρ' s' => (ρ' 1 = ptrV s.nextId 0) ∧ (ρ' 2 = ptrV sB1.nextId 0) ∧ (ρ' 3 = ptrV sB2.nextId 0) ∧ (Hs s.nextId s s' [Item.own s.nextId 0 [vB], Item.own sB1.nextId 0 [.string ⟨⟨[]⟩⟩, .slice none 0 0], Item.own sB2.nextId 0 [.string ⟨⟨bs.flatten⟩⟩, .slice none 0 0]])) (Wc.block (Wc.loop (fun m ρ' s' => ∃ (i : Nat), (ρ' 1 = ptrV s.nextId 0) ∧ (ρ' 2 = ptrV sB1.nextId 0) ∧ (ρ' 3 = ptrV sB2.nextId 0) ∧ (ρ' 10 = vB) ∧ (ρ' 11 = .int .i64 ((bs.length : Nat) : Int)) ∧ (ρ' 12 = .int .i64 ((i : Nat) : Int)) ∧ m = bs.length - i ∧ (Hs s.nextId s s' [Item.own s.nextId 0 [vB], Item.own sB1.nextId 0 [.string ⟨⟨[]⟩⟩, .slice none 0 0], Item.own sB2.nextId 0 [.string ⟨⟨(bs.take i).flatten⟩⟩, .slice none 0 0]]) ∧ (i ≤ bs.length)) ?_ ?_)) ?_
  · skip
    exact ⟨_, 0, rfl, rfl, rfl, rfl, rfl, rfl, rfl, H, by omega⟩
  · intro m0 ρ0 s0 hI
    obtain ⟨i, e1, e2, e3, e10, e11, e12, hm0, H, hi⟩ := hI
    refine Wc.fix (k := 1) e1 ?_
    refine Wc.fix (k := 2) e2 ?_
    refine Wc.fix (k := 3) e3 ?_
    refine Wc.fix (k := 10) e10 ?_
    refine Wc.fix (k := 11) e11 ?_
    refine Wc.fix (k := 12) e12 ?_
    have hf1 := flat_take_le bs i
    refine Wc.seq ?_
    refine Wc.reg ?_
    refine Wo.op (Step.lss rfl rfl) ?_
    refine Wo.nil ?_
    refine Wc.seq ?_
    refine Wc.ite rfl (fun hc13 => ?_) (fun hc13 => ?_)
    · skip
      refine Wc.skip ?_
      refine Wc.seq ?_
      refine Wc.block ?_
      refine Wc.seq ?_
      refine Wc.reg ?_
      refine Wo.idxS rfl (hB.at H hPN) rfl (by first | omega | (simp; omega)) (by first | omega | (simp; omega)) ?_
      intro p14
      refine Wo.op (Step.move (by conv => lhs; whnf)) ?_
      refine Wo.nil ?_
      refine Wc.reg ?_
      refine Wo.op (Step.faddr rfl) ?_
      refine Wo.op (Step.load rfl (H.row 2 rfl) (by rfl)) ?_
      refine Wo.op (Step.move (by conv => lhs; whnf)) ?_
      have hg1 := gets_le (xs := bs) (i := i) (by omega)
      refine Wo.op (Step.sadd rfl rfl (by omega)) ?_
      refine Wo.op (Step.faddr rfl) ?_
      refine Wo.storeH H 2 rfl rfl (by conv => lhs; whnf) (by rfl) (by rfl) (by rfl) ?_
      intro sS0 H nS0
      refine Wo.nil ?_
      refine Wc.reg ?_
      refine Wo.op (Step.add (b := 1) rfl rfl (by omega)) ?_
      refine Wo.op (Step.move (by conv => lhs; whnf)) ?_
      refine Wo.nil ?_
      rw [← flat_take (by omega)] at H
      refine ⟨_, ?_, i + 1, rfl, rfl, rfl, rfl, rfl, rfl, rfl, H, by omega⟩
      omega
    · skip
      refine Wc.exit ?_
      refine .inl ⟨rfl, ?_⟩
      have e : i = bs.length := by omega
      subst e
      rw [List.take_length] at H
      exact ⟨rfl, rfl, rfl, H⟩
  · intro ρx0 sx0 hP
    obtain ⟨e1, e2, e3, H⟩ := hP
    show Wc _ _ _ _ _ _ _
    refine Wc.fix (k := 1) e1 ?_
    refine Wc.fix (k := 2) e2 ?_
    refine Wc.fix (k := 3) e3 ?_
    refine Wc.seq ?_
    refine Wc.reg ?_
    refine Wo.op (Step.faddr rfl) ?_
    refine Wo.op (Step.load rfl (H.row 2 rfl) (by rfl)) ?_
    refine Wo.op (Step.lenStrG rfl) ?_
    refine Wo.op (Step.add (b := 1) rfl rfl (by omega)) ?_
    refine Wo.mkSliceH H rfl rfl (by omega) (by omega) (zeroB _) ?_
    intro sM26 H nM26
    rw [gap_start] at H
    have hgn := gapN_length bs 0
    refine Wo.op (Step.faddr rfl) ?_
    refine Wo.storeH H 2 rfl rfl (Sl.cellE (H.brow 3 (by rfl) (by first | rfl | omega | (simp; done) | (simp; omega) | (simp; done) | (simp; omega))) rfl) (by rfl) (Sl.one (H.brow 3 (by rfl) (by first | rfl | omega | (simp; done) | (simp; omega) | (simp; done) | (simp; omega)))) (by rfl) ?_
    intro sS1 H nS1
    refine Wo.nil ?_
    refine Wc.seq ?_
    refine Wc.reg ?_
    refine Wo.op (Step.move (by conv => lhs; whnf)) ?_
    refine Wo.nil ?_
    refine Wc.seq ?_
    refine Wc.seq ?_
    refine Wc.reg ?_
    refine Wo.op (Step.faddr rfl) ?_
    refine Wo.op (Step.load rfl (H.row 0 rfl) (by rfl)) ?_
    refine Wo.op (Step.faddr rfl) ?_
    refine Wo.op (Step.load rfl (H.row 0 rfl) (by rfl)) ?_
    refine Wo.op (Step.lenSl rfl (hB.at H hPN)) ?_
    refine Wo.op (Step.sub (b := 1) rfl rfl (by omega)) ?_
    refine Wo.slice0 rfl hB H hPN Bnd.none (Bnd.some rfl (by omega)) (by omega) (by omega) ?_
    intro vS34 hS34
    have hS34 := Sl.cutS (by omega) (by omega) hS34
    rw [Nat.sub_zero, take0 h1] at hS34
    have hl34 : (bs.take (bs.length - 1)).length = bs.length - 1 := by simp
    refine Wo.op (Step.lenSl rfl (hS34.at H hPN)) ?_
    refine Wo.op (Step.move (by conv => lhs; whnf)) ?_
    refine Wo.nil ?_
    refine Wc.mid (fun ρ' s' => (ρ' 1 = ptrV s.nextId 0) ∧ (ρ' 2 = ptrV sB1.nextId 0) ∧ (ρ' 3 = ptrV sB2.nextId 0) ∧ (Hs s.nextId s s' [Item.own s.nextId 0 [vB], Item.own sB1.nextId 0 [.string ⟨⟨[]⟩⟩, .slice none 0 0], Item.own sB2.nextId 0 [.string ⟨⟨bs.flatten⟩⟩, .slice (some ⟨sx0.nextId, 0, none⟩) (bs.flatten.length + 1) (bs.flatten.length + 1)], Item.own sx0.nextId 1 (enB (gapN bs (bs.length - 1)))])) (Wc.block (Wc.loop (fun m ρ' s' => ∃ (i : Nat), (ρ' 1 = ptrV s.nextId 0) ∧ (ρ' 2 = ptrV sB1.nextId 0) ∧ (ρ' 3 = ptrV sB2.nextId 0) ∧ (ρ' 6 = .int .i64 ((tot (bs.take i) : Nat) : Int)) ∧ (ρ' 34 = vS34) ∧ (ρ' 35 = .int .i64 (((bs.take (bs.length - 1)).length : Nat) : Int)) ∧ (ρ' 36 = .int .i64 ((i : Nat) : Int)) ∧ m = bs.length - i ∧ (Hs s.nextId s s' [Item.own s.nextId 0 [vB], Item.own sB1.nextId 0 [.string ⟨⟨[]⟩⟩, .slice none 0 0], Item.own sB2.nextId 0 [.string ⟨⟨bs.flatten⟩⟩, .slice (some ⟨sx0.nextId, 0, none⟩) (bs.flatten.length + 1) (bs.flatten.length + 1)], Item.own sx0.nextId 1 (enB (gapN bs i))]) ∧ (i ≤ bs.length - 1)) ?_ ?_)) ?_
    · skip
      exact ⟨_, 0, rfl, rfl, rfl, rfl, rfl, rfl, rfl, rfl, H, by omega⟩
    · intro m2 ρ2 s2 hI
      obtain ⟨i, e1, e2, e3, e6, e34, e35, e36, hm2, H, hi⟩ := hI
      refine Wc.fix (k := 1) e1 ?_
      refine Wc.fix (k := 2) e2 ?_
      refine Wc.fix (k := 3) e3 ?_
      refine Wc.fix (k := 6) e6 ?_
      refine Wc.fix (k := 34) e34 ?_
      refine Wc.fix (k := 35) e35 ?_
      refine Wc.fix (k := 36) e36 ?_
      have hgn := gapN_length bs i
      have htt := tot_take_le bs (i + 1)
      refine Wc.seq ?_
      refine Wc.reg ?_
      refine Wo.op (Step.lss rfl rfl) ?_
      refine Wo.nil ?_
      refine Wc.seq ?_
      refine Wc.ite rfl (fun hc37 => ?_) (fun hc37 => ?_)
      · skip
        refine Wc.skip ?_
        refine Wc.seq ?_
        refine Wc.block ?_
        refine Wc.seq ?_
        refine Wc.reg ?_
        refine Wo.idxS rfl (hS34.at H hPN) rfl (by first | omega | (simp; omega)) (by first | omega | (simp; omega)) ?_
        intro p38
        refine Wo.op (Step.move (by conv => lhs; whnf)) ?_
        refine Wo.nil ?_
        refine Wc.seq ?_
        refine Wc.reg ?_
        refine Wo.op (Step.move (by conv => lhs; whnf)) ?_
        refine Wo.op (Step.move (by conv => lhs; whnf)) ?_
        refine Wo.op (Step.lenStrG rfl) ?_
        have hg2 : (gets (bs.take (bs.length - 1)) ((i : Nat) : Int)).length ≤ tot bs := by rw [gets_take (by omega)]; exact gets_le (by omega)
        have hg3 := tot_take_succ (xs := bs) (i := i) (by omega)
        have hg4 : (gets (bs.take (bs.length - 1)) ((i : Nat) : Int)).length = (gets bs (i : Nat)).length := by rw [gets_take (by omega)]
        refine Wo.op (Step.add rfl rfl (by omega)) ?_
        refine Wo.op (Step.move (by conv => lhs; whnf)) ?_
        refine Wo.nil ?_
        refine Wc.reg ?_
        refine Wo.op (Step.faddr rfl) ?_
        refine Wo.op (Step.load rfl (H.row 2 rfl) (by rfl)) ?_
        refine Wo.op (Step.move (by conv => lhs; whnf)) ?_
        refine Wo.setB H 3 rfl rfl (by rfl) (by first | omega | (simp; omega)) (by first | omega | (simp; omega)) (by first | omega | (simp; omega) | (simp; omega) | (simp; done)) rfl ?_ (by simp)
        intro p47 sT47 H nT47
        refine Wo.nil ?_
        refine Wc.reg ?_
        refine Wo.op (Step.add (b := 1) rfl rfl (by omega)) ?_
        refine Wo.op (Step.move (by conv => lhs; whnf)) ?_
        refine Wo.nil ?_
        have e2 : (((tot (bs.take i) : Nat) : Int) + (((gets (bs.take (bs.length - 1)) ((i : Nat) : Int)).length : Nat) : Int)) = ((tot (bs.take (i + 1)) : Nat) : Int) := by rw [gets_take (by omega), tot_take_succ (by omega)]; omega
        rw [e2, Int.toNat_natCast] at H
        exact ⟨_, by omega, i + 1, rfl, rfl, rfl, congrArg (Value.int .i64) e2, rfl, rfl, rfl, rfl, H, by omega⟩
      · skip
        refine Wc.exit ?_
        refine .inl ⟨rfl, ?_⟩
        have e : i = bs.length - 1 := by omega
        subst e
        exact ⟨rfl, rfl, rfl, H⟩
    · intro ρx2 sx2 hP
      obtain ⟨e1, e2, e3, H⟩ := hP
      show Wc _ _ _ _ _ _ _
      refine Wc.fix (k := 1) e1 ?_
      refine Wc.fix (k := 2) e2 ?_
      refine Wc.fix (k := 3) e3 ?_
      have hgn := gapN_length bs (bs.length - 1)
      refine Wc.seq ?_
      refine Wc.reg ?_
      refine Wo.op (Step.loadN rfl (H.row 2 rfl) (by rfl)) ?_
      refine Wo.storeH H 1 rfl rfl (by conv => lhs; whnf) (by rfl) (ones_cons (by rfl) (ones_cons (Sl.one (H.brow 3 (by rfl) (by first | rfl | omega | (simp; done) | (simp; omega) | (simp; done) | (simp; omega)))) (rfl))) (by rfl) ?_
      intro sS2 H nS2
      refine Wo.nil ?_
      refine Wc.ret ⟨_, Rs.cells rfl (Row.cells (H.row 1 rfl)) (by rfl) (Rs.nil), ?_⟩
      exact ⟨_, rfl, H.new1 3 rfl⟩
theorem pattern_runner_step_ok {s : St} {P : Nat → Prop} {vG : Value} {gap : List Bool} {al : List UInt8} (hG : IsBools s P vG gap) (hPN : ∀ B, P B → B < s.nextId) {xs : List UInt8} {a : Int} (hl : gap.length = al.length + 1) (hx : xs.length = gap.length) (hn : gap.length ≤ 1000000) (hal : ∀ c, c ∈ al → 97 ≤ c.toNat) :
    Wf kprog n_pattern_runner_step [.agg ⟨[.string ⟨⟨al⟩⟩, vG]⟩, .string ⟨⟨xs⟩⟩, .int .i64 a] s (fun v s' => v = .string ⟨⟨nextP al gap xs a⟩⟩ ∧ Pur s s') := by
  have H := Hs.start s
  refine Wf.of p_pattern_runner_step rfl ?_
  unfold c_pattern_runner_step
  refine Wc.seq ?_
  refine Wc.reg ?_
  refine Wo.boxH H (by conv => lhs; whnf) ?_
  intro sB3 H nB3
  refine Wo.op (Step.move (by conv => lhs; whnf)) ?_
  refine Wo.nil ?_
  refine Wc.seq ?_
  refine Wc.reg ?_
  refine Wo.op (Step.faddr rfl) ?_
  refine Wo.op (Step.load rfl (H.row 0 rfl) (by rfl)) ?_
  refine Wo.op (Step.lenSl rfl (hG.at H hPN)) ?_
  refine Wo.mkSliceH H rfl rfl (by omega) (by omega) (zeroU _) ?_
  intro sM12 H nM12
  rw [stepN_zero al gap xs a] at H
  refine Wo.op (Step.move (by conv => lhs; whnf)) ?_
  refine Wo.nil ?_
  refine Wc.seq ?_
  refine Wc.seq ?_
  refine Wc.reg ?_
  refine Wo.op (Step.faddr rfl) ?_
  refine Wo.op (Step.load rfl (H.row 0 rfl) (by rfl)) ?_
  refine Wo.op (Step.lenSl rfl (hG.at H hPN)) ?_
  refine Wo.op (Step.move (by conv => lhs; whnf)) ?_
  refine Wo.nil ?_
  refine Wc.mid (fun ρ' s' => (ρ' 3 = ptrV s.nextId 0) ∧ (ρ' 7 = .slice (some ⟨sB3.nextId, 0, none⟩) gap.length gap.length) ∧ (Hs s.nextId s s' [Item.own s.nextId 0 [.string ⟨⟨al⟩⟩, vG], Item.own sB3.nextId 1 (enU (stepN al gap xs a gap.length))])) (Wc.block (Wc.loop (fun m ρ' s' => ∃ (i : Nat), (ρ' 1 = .string ⟨⟨xs⟩⟩) ∧ (ρ' 2 = .int .i64 a) ∧ (ρ' 3 = ptrV s.nextId 0) ∧ (ρ' 7 = .slice (some ⟨sB3.nextId, 0, none⟩) gap.length gap.length) ∧ (ρ' 15 = .int .i64 ((gap.length : Nat) : Int)) ∧ (ρ' 16 = .int .i64 ((i : Nat) : Int)) ∧ m = gap.length - i ∧ (Hs s.nextId s s' [Item.own s.nextId 0 [.string ⟨⟨al⟩⟩, vG], Item.own sB3.nextId 1 (enU (stepN al gap xs a i))]) ∧ (i ≤ gap.length)) ?_ ?_)) ?_
  · skip
    exact ⟨_, 0, rfl, rfl, rfl, rfl, rfl, rfl, rfl, H, by omega⟩
  · intro m0 ρ0 s0 hI
    obtain ⟨i, e1, e2, e3, e7, e15, e16, hm0, H, hi⟩ := hI
    refine Wc.fix (k := 1) e1 ?_
    refine Wc.fix (k := 2) e2 ?_
    refine Wc.fix (k := 3) e3 ?_
    refine Wc.fix (k := 7) e7 ?_
    refine Wc.fix (k := 15) e15 ?_
    refine Wc.fix (k := 16) e16 ?_
    have hsn := stepN_length al gap xs a i
    refine Wc.seq ?_
    refine Wc.reg ?_
    refine Wo.op (Step.lss rfl rfl) ?_
    refine Wo.nil ?_
    refine Wc.seq ?_
    refine Wc.ite rfl (fun hc17 => ?_) (fun hc17 => ?_)
    · skip
      refine Wc.skip ?_
      refine Wc.seq ?_
      refine Wc.block ?_
      refine Wc.seq ?_
      refine Wc.reg ?_
      refine Wo.op (Step.move (by conv => lhs; whnf)) ?_
      refine Wo.op (Step.move (by conv => lhs; whnf)) ?_
      refine Wo.nil ?_
      refine Wc.seq ?_
      refine Wc.seq ?_
      refine Wc.reg ?_
      refine Wo.op (Step.move (by conv => lhs; whnf)) ?_
      refine Wo.op (Step.move (by conv => lhs; whnf)) ?_
      refine Wo.op (Step.idxStrG rfl rfl (by omega) (by omega)) ?_
      refine Wo.op (Step.eql (b := 0) rfl rfl) ?_
      refine Wo.nil ?_
      refine Wc.ite rfl (fun hc22 => ?_) (fun hc22 => ?_)
      · skip
        refine Wc.exit ?_
        refine .inl ⟨rfl, ?_⟩
        refine Wc.reg ?_
        refine Wo.op (Step.add (b := 1) rfl rfl (by omega)) ?_
        refine Wo.op (Step.move (by conv => lhs; whnf)) ?_
        refine Wo.nil ?_
        have e := stepN_skip (al := al) (gap := gap) (xs := xs) (a := a) (i := i) (getu_zero.2 hc22)
        exact ⟨_, by omega, i + 1, rfl, rfl, rfl, rfl, rfl, rfl, rfl, by rw [e]; exact H, by omega⟩
      · skip
        refine Wc.skip ?_
        refine Wc.seq ?_
        refine Wc.seq ?_
        refine Wc.reg ?_
        refine Wo.op (Step.faddr rfl) ?_
        refine Wo.op (Step.load rfl (H.row 0 rfl) (by rfl)) ?_
        refine Wo.op (Step.move (by conv => lhs; whnf)) ?_
        refine Wo.idxB rfl (hG.at H hPN) rfl (by first | omega | (simp; omega)) (by first | omega | (simp; omega)) ?_
        intro p26
        refine Wo.nil ?_
        refine Wc.iteB rfl (fun hc27 => ?_) (fun hc27 => ?_)
        · skip
          refine Wc.reg ?_
          refine Wo.op (Step.move (by conv => lhs; whnf)) ?_
          refine Wo.op (Step.move (by conv => lhs; whnf)) ?_
          refine Wo.setU H 1 (n := 1) rfl rfl (by rfl) (by first | omega | (simp; omega)) (by first | omega | (simp; omega)) (by first | omega | (simp; omega) | (simp; omega) | (simp; done)) rfl ?_ (by simp)
          intro p30 sT30 H nT30
          refine Wo.nil ?_
          refine Wc.seq ?_
          refine Wc.reg ?_
          refine Wo.op (Step.move (by conv => lhs; whnf)) ?_
          refine Wo.op (Step.faddr rfl) ?_
          refine Wo.op (Step.load rfl (H.row 0 rfl) (by rfl)) ?_
          refine Wo.op (Step.lenStrG rfl) ?_
          refine Wo.op (Step.lss rfl rfl) ?_
          refine Wo.op (Step.move (by conv => lhs; whnf)) ?_
          refine Wo.cases (j := 36) rfl (fun hc36 => ?_) (fun hc36 => ?_)
          · skip
            refine Wo.on rfl ?_
            refine Wo.op (Step.faddr rfl) ?_
            refine Wo.on rfl ?_
            refine Wo.op (Step.load rfl (H.row 0 rfl) (by rfl)) ?_
            refine Wo.on rfl ?_
            refine Wo.op (Step.move (by conv => lhs; whnf)) ?_
            refine Wo.on rfl ?_
            refine Wo.op (Step.idxStrG rfl rfl (by omega) (by omega)) ?_
            have hga := hal _ (getu_mem (w := al) (i := ((i : Nat) : Int)) (by omega) (by omega))
            have hgb := getu_lt al ((i : Nat) : Int)
            refine Wo.on rfl ?_
            have hga := hal _ (getu_mem (w := al) (i := ((i : Nat) : Int)) (by omega) (by omega))
            have hgb := getu_lt al ((i : Nat) : Int)
            refine Wo.op (Step.sub8 (b := 97) rfl rfl (by omega)) ?_
            refine Wo.on rfl ?_
            refine Wo.op (Step.conv64 rfl (by omega)) ?_
            refine Wo.on rfl ?_
            refine Wo.op (Step.move (by conv => lhs; whnf)) ?_
            refine Wo.on rfl ?_
            refine Wo.op (Step.eql rfl rfl) ?_
            refine Wo.op (Step.pickT rfl (by conv => lhs; whnf)) ?_
            refine Wo.nil ?_
            refine Wc.ite rfl (fun hc45 => ?_) (fun hc45 => ?_)
            · skip
              refine Wc.reg ?_
              refine Wo.op (Step.move (by conv => lhs; whnf)) ?_
              refine Wo.op (Step.move (by conv => lhs; whnf)) ?_
              refine Wo.op (Step.add (b := 1) rfl rfl (by omega)) ?_
              refine Wo.setU H 1 (n := 1) rfl rfl (by rfl) (by first | omega | (simp; omega)) (by first | omega | (simp; omega)) (by first | omega | (simp; omega) | (simp; omega) | (simp; done)) rfl ?_ (by simp)
              intro p49 sT49 H nT49
              refine Wo.nil ?_
              refine Wc.reg ?_
              refine Wo.op (Step.add (b := 1) rfl rfl (by omega)) ?_
              refine Wo.op (Step.move (by conv => lhs; whnf)) ?_
              refine Wo.nil ?_
              have e := stepN_go (al := al) (gap := gap) (xs := xs) (a := a) (i := i) (fun h => hc22 (getu_zero.1 h))
              rw [if_pos ⟨by omega, hc45⟩, if_pos hc27] at e
              exact ⟨_, by omega, i + 1, rfl, rfl, rfl, rfl, rfl, rfl, rfl, by rw [e]; exact H, by omega⟩
            · skip
              refine Wc.skip ?_
              refine Wc.reg ?_
              refine Wo.op (Step.add (b := 1) rfl rfl (by omega)) ?_
              refine Wo.op (Step.move (by conv => lhs; whnf)) ?_
              refine Wo.nil ?_
              have e := stepN_go (al := al) (gap := gap) (xs := xs) (a := a) (i := i) (fun h => hc22 (getu_zero.1 h))
              rw [if_neg (fun h => hc45 h.2), if_pos hc27] at e
              exact ⟨_, by omega, i + 1, rfl, rfl, rfl, rfl, rfl, rfl, rfl, by rw [e]; exact H, by omega⟩
          · skip
            refine Wo.off rfl rfl ?_
            refine Wo.off rfl rfl ?_
            refine Wo.off rfl rfl ?_
            refine Wo.off rfl rfl ?_
            refine Wo.off rfl rfl ?_
            refine Wo.off rfl rfl ?_
            refine Wo.off rfl rfl ?_
            refine Wo.off rfl rfl ?_
            refine Wo.op (Step.pickF rfl (by conv => lhs; whnf)) ?_
            refine Wo.nil ?_
            refine Wc.no rfl ?_
            refine Wc.skip ?_
            refine Wc.reg ?_
            refine Wo.op (Step.add (b := 1) rfl rfl (by omega)) ?_
            refine Wo.op (Step.move (by conv => lhs; whnf)) ?_
            refine Wo.nil ?_
            have e := stepN_go (al := al) (gap := gap) (xs := xs) (a := a) (i := i) (fun h => hc22 (getu_zero.1 h))
            rw [if_neg (fun h => hc36 (by omega)), if_pos hc27] at e
            exact ⟨_, by omega, i + 1, rfl, rfl, rfl, rfl, rfl, rfl, rfl, by rw [e]; exact H, by omega⟩
        · skip
          refine Wc.skip ?_
          refine Wc.seq ?_
          refine Wc.reg ?_
          refine Wo.op (Step.move (by conv => lhs; whnf)) ?_
          refine Wo.op (Step.faddr rfl) ?_
          refine Wo.op (Step.load rfl (H.row 0 rfl) (by rfl)) ?_
          refine Wo.op (Step.lenStrG rfl) ?_
          refine Wo.op (Step.lss rfl rfl) ?_
          refine Wo.op (Step.move (by conv => lhs; whnf)) ?_
          refine Wo.cases (j := 36) rfl (fun hc36 => ?_) (fun hc36 => ?_)
          · skip
            refine Wo.on rfl ?_
            refine Wo.op (Step.faddr rfl) ?_
            refine Wo.on rfl ?_
            refine Wo.op (Step.load rfl (H.row 0 rfl) (by rfl)) ?_
            refine Wo.on rfl ?_
            refine Wo.op (Step.move (by conv => lhs; whnf)) ?_
            refine Wo.on rfl ?_
            refine Wo.op (Step.idxStrG rfl rfl (by omega) (by omega)) ?_
            have hga := hal _ (getu_mem (w := al) (i := ((i : Nat) : Int)) (by omega) (by omega))
            have hgb := getu_lt al ((i : Nat) : Int)
            refine Wo.on rfl ?_
            have hga := hal _ (getu_mem (w := al) (i := ((i : Nat) : Int)) (by omega) (by omega))
            have hgb := getu_lt al ((i : Nat) : Int)
            refine Wo.op (Step.sub8 (b := 97) rfl rfl (by omega)) ?_
            refine Wo.on rfl ?_
            refine Wo.op (Step.conv64 rfl (by omega)) ?_
            refine Wo.on rfl ?_
            refine Wo.op (Step.move (by conv => lhs; whnf)) ?_
            refine Wo.on rfl ?_
            refine Wo.op (Step.eql rfl rfl) ?_
            refine Wo.op (Step.pickT rfl (by conv => lhs; whnf)) ?_
            refine Wo.nil ?_
            refine Wc.ite rfl (fun hc45 => ?_) (fun hc45 => ?_)
            · skip
              refine Wc.reg ?_
              refine Wo.op (Step.move (by conv => lhs; whnf)) ?_
              refine Wo.op (Step.move (by conv => lhs; whnf)) ?_
              refine Wo.op (Step.add (b := 1) rfl rfl (by omega)) ?_
              refine Wo.setU H 1 (n := 1) rfl rfl (by rfl) (by first | omega | (simp; omega)) (by first | omega | (simp; omega)) (by first | omega | (simp; omega) | (simp; omega) | (simp; done)) rfl ?_ (by simp)
              intro p49 sT49 H nT49
              refine Wo.nil ?_
              refine Wc.reg ?_
              refine Wo.op (Step.add (b := 1) rfl rfl (by omega)) ?_
              refine Wo.op (Step.move (by conv => lhs; whnf)) ?_
              refine Wo.nil ?_
              have e := stepN_go (al := al) (gap := gap) (xs := xs) (a := a) (i := i) (fun h => hc22 (getu_zero.1 h))
              rw [if_pos ⟨by omega, hc45⟩, if_neg (fun h => by rw [hc27] at h; cases h)] at e
              exact ⟨_, by omega, i + 1, rfl, rfl, rfl, rfl, rfl, rfl, rfl, by rw [e]; exact H, by omega⟩
            · skip
              refine Wc.skip ?_
              refine Wc.reg ?_
              refine Wo.op (Step.add (b := 1) rfl rfl (by omega)) ?_
              refine Wo.op (Step.move (by conv => lhs; whnf)) ?_
              refine Wo.nil ?_
              have e := stepN_go (al := al) (gap := gap) (xs := xs) (a := a) (i := i) (fun h => hc22 (getu_zero.1 h))
              rw [if_neg (fun h => hc45 h.2), if_neg (fun h => by rw [hc27] at h; cases h)] at e
              exact ⟨_, by omega, i + 1, rfl, rfl, rfl, rfl, rfl, rfl, rfl, by rw [e]; exact H, by omega⟩
          · skip
            refine Wo.off rfl rfl ?_
            refine Wo.off rfl rfl ?_
            refine Wo.off rfl rfl ?_
            refine Wo.off rfl rfl ?_
            refine Wo.off rfl rfl ?_
            refine Wo.off rfl rfl ?_
            refine Wo.off rfl rfl ?_
            refine Wo.off rfl rfl ?_
            refine Wo.op (Step.pickF rfl (by conv => lhs; whnf)) ?_
            refine Wo.nil ?_
            refine Wc.no rfl ?_
            refine Wc.skip ?_
            refine Wc.reg ?_
            refine Wo.op (Step.add (b := 1) rfl rfl (by omega)) ?_
            refine Wo.op (Step.move (by conv => lhs; whnf)) ?_
            refine Wo.nil ?_
            have e := stepN_go (al := al) (gap := gap) (xs := xs) (a := a) (i := i) (fun h => hc22 (getu_zero.1 h))
            rw [if_neg (fun h => hc36 (by omega)), if_neg (fun h => by rw [hc27] at h; cases h)] at e
            exact ⟨_, by omega, i + 1, rfl, rfl, rfl, rfl, rfl, rfl, rfl, by rw [e]; exact H, by omega⟩
    · skip
      refine Wc.exit ?_
      refine .inl ⟨rfl, ?_⟩
      have e : i = gap.length := by omega
      subst e
      exact ⟨rfl, rfl, H⟩
  · intro ρx0 sx0 hP
    obtain ⟨e3, e7, H⟩ := hP
    show Wc _ _ _ _ _ _ _
    refine Wc.fix (k := 3) e3 ?_
    refine Wc.fix (k := 7) e7 ?_
    refine Wc.seq ?_
    refine Wc.reg ?_
    refine Wo.op (Step.loadN rfl (H.row 0 rfl) (by rfl)) ?_
    refine Wo.op (Step.move (by conv => lhs; whnf)) ?_
    -- call pattern_runner_clean
    have hcl := pattern_runner_clean_ok (P := P) (A := sB3.nextId) (xs := stepN al gap xs a gap.length) (al := al) (hG.at H hPN) (fun B hB => by have := hPN B hB; omega) (H.own 1 rfl) (stepN_length ..) (by rw [stepN_length]; exact hn)
    rw [stepN_length] at hcl
    refine Wo.call (Wf.mono hcl ?_)
    rintro _ s9 ⟨rfl, hE⟩
    refine Wo.op (Step.move (by conv => lhs; whnf)) ?_
    refine Wo.nil ?_
    refine Wc.ret ⟨_, Rs.tmp (by conv => lhs; whnf) (Rs.nil), ?_⟩
    exact ⟨rfl, Ext.toPur (H.ext.step hE fun B _ hB => by omega)⟩
theorem pattern_Match_ok {s : St} {P : Nat → Prop} {vB : Value} {bs : List (List UInt8)} {w : List UInt8} (hB : IsStrs s P vB bs) (hPN : ∀ A, P A → A < s.nextId) (hln : bs.length ≤ 281474976710656) (hb : ∀ b, b ∈ bs → b.length ≤ 281474976710656) (hw : w.length ≤ 281474976710656) :
    Wf kprog n_pattern_Match [.agg ⟨[vB]⟩, .string ⟨⟨w⟩⟩] s (fun v s' => v = .bool (matchP bs w) ∧ Pur s s') := by
  have H := Hs.start s
  have hfl := tot_flat bs
  have hgl := gapN_length bs (bs.length - 1)
  refine Wf.of p_pattern_Match rfl ?_
  unfold c_pattern_Match
  refine Wc.seq ?_
  refine Wc.reg ?_
  refine Wo.boxH H (by conv => lhs; whnf) ?_
  intro sB2 H nB2
  refine Wo.op (Step.move (by conv => lhs; whnf)) ?_
  refine Wo.nil ?_
  refine Wc.seq ?_
  refine Wc.seq ?_
  refine Wc.reg ?_
  refine Wo.op (Step.loadN rfl (H.row 0 rfl) (by rfl)) ?_
  -- call pattern_Validate
  refine Wo.call (Wf.mono (pattern_Validate_ok (s := _) (L := 6) ((hB.at H hPN)) (fun A h => by have := hPN A h; have := H.le; omega) ⟨by omega, by omega⟩ hln hb) ?_)
  rintro _ s1 ⟨rfl, c1⟩
  have H := H.pur c1
  refine Wo.op (Step.neq (b := 0) rfl rfl) ?_
  refine Wo.op (Step.move (by conv => lhs; whnf)) ?_
  refine Wo.cases (j := 11) rfl (fun hc11 => ?_) (fun hc11 => ?_)
  · skip
    refine Wo.off rfl rfl ?_
    refine Wo.off rfl rfl ?_
    refine Wo.off rfl rfl ?_
    refine Wo.op (Step.pickT rfl (by conv => lhs; whnf)) ?_
    refine Wo.nil ?_
    refine Wc.yes rfl ?_
    refine Wc.seq ?_
    refine Wc.reg ?_
    refine Wo.op (Step.move (by conv => lhs; whnf)) ?_
    refine Wo.nil ?_
    refine Wc.ret ⟨_, Rs.tmp (by conv => lhs; whnf) (Rs.nil), ?_⟩
    exact ⟨congrArg Value.bool (show false = matchP bs w by unfold matchP; simp [hc11]), H.topur⟩
  · skip
    refine Wo.on rfl ?_
    refine Wo.op (Step.move (by conv => lhs; whnf)) ?_
    refine Wo.on rfl ?_
    -- call word_Valid
    refine Wo.call (Wf.mono (word_Valid_ok (w := w) (k := 6) ⟨by omega, by omega⟩ (by omega)) ?_)
    rintro _ _ ⟨rfl, rfl⟩
    refine Wo.on rfl ?_
    refine Wo.op (Step.notD rfl) ?_
    refine Wo.op (Step.pickF rfl (by conv => lhs; whnf)) ?_
    refine Wo.nil ?_
    refine Wc.ite rfl (fun hc15 => ?_) (fun hc15 => ?_)
    · skip
      refine Wc.seq ?_
      refine Wc.reg ?_
      refine Wo.op (Step.move (by conv => lhs; whnf)) ?_
      refine Wo.nil ?_
      refine Wc.ret ⟨_, Rs.tmp (by conv => lhs; whnf) (Rs.nil), ?_⟩
      exact ⟨congrArg Value.bool (show false = matchP bs w by unfold matchP; simp [hc15]), H.topur⟩
    · skip
      have hwo : WordOk w 6 := Classical.not_not.1 hc15
      have hv0 : validP 6 bs = 0 := Classical.not_not.1 hc11
      obtain ⟨hL1, hL6, h8, hT, hne, hok⟩ := validP_zero hv0
      refine Wc.skip ?_
      refine Wc.seq ?_
      refine Wc.reg ?_
      refine Wo.op (Step.loadN rfl (H.row 0 rfl) (by rfl)) ?_
      -- call pattern_run
      refine Wo.call (Wf.mono (pattern_run_ok (hB.at H hPN) (fun A h => by have := hPN A h; have := H.le; omega) (by have := List.length_pos_iff.2 hne; omega) (by omega) (by omega)) ?_)
      rintro _ s3 ⟨A, rfl, hnew⟩
      have H := H.adds hnew
      refine Wo.allocH H ?_
      intro sB5 H nB5
      refine Wo.storeH H 2 rfl rfl (by conv => lhs; whnf) (by rfl) (ones_cons (by rfl) (ones_cons (Sl.one (H.brow 1 (by rfl) (by first | rfl | omega | (simp; done) | (simp; omega) | (simp; done) | (simp; omega)))) (rfl))) (by rfl) ?_
      intro sS0 H nS0
      refine Wo.nil ?_
      refine Wc.seq ?_
      refine Wc.reg ?_
      refine Wo.op (Step.loadN rfl (H.row 2 rfl) (by rfl)) ?_
      -- call pattern_runner_start
      refine Wo.call (Wf.mono (pattern_runner_start_ok (al := bs.flatten) ((H.brow 1 rfl (by rw [gapN_length]; omega)).mono (fun B h _ => h)) (fun A h => h) (by rw [gapN_length]; omega)) ?_)
      rintro _ s4 ⟨rfl, c4⟩
      rw [gapN_length]
      have H := H.pur c4
      refine Wo.op (Step.move (by conv => lhs; whnf)) ?_
      refine Wo.nil ?_
      refine Wc.seq ?_
      refine Wc.seq ?_
      refine Wc.reg ?_
      refine Wo.op (Step.move (by conv => lhs; whnf)) ?_
      refine Wo.nil ?_
      refine Wc.mid (fun ρ' s' => (ρ' 5 = ptrV s3.nextId 0) ∧ (ρ' 6 = .string ⟨⟨runP bs.flatten (gapN bs (bs.length - 1)) (startP (tot bs + 1)) w⟩⟩) ∧ (Hs s.nextId s s' [Item.own s.nextId 0 [vB], Item.own A 1 (enB (gapN bs (bs.length - 1))), Item.own s3.nextId 0 [.string ⟨⟨bs.flatten⟩⟩, .slice (some ⟨A, 0, none⟩) (bs.flatten.length + 1) (bs.flatten.length + 1)]])) (Wc.block (Wc.loop (fun m ρ' s' => ∃ (i : Nat), (ρ' 1 = .string ⟨⟨w⟩⟩) ∧ (ρ' 5 = ptrV s3.nextId 0) ∧ (ρ' 6 = .string ⟨⟨runP bs.flatten (gapN bs (bs.length - 1)) (startP (tot bs + 1)) (w.take i)⟩⟩) ∧ (ρ' 7 = .int .i64 ((i : Nat) : Int)) ∧ m = w.length - i ∧ (Hs s.nextId s s' [Item.own s.nextId 0 [vB], Item.own A 1 (enB (gapN bs (bs.length - 1))), Item.own s3.nextId 0 [.string ⟨⟨bs.flatten⟩⟩, .slice (some ⟨A, 0, none⟩) (bs.flatten.length + 1) (bs.flatten.length + 1)]]) ∧ (i ≤ w.length)) ?_ ?_)) ?_
      · skip
        exact ⟨_, 0, rfl, rfl, rfl, rfl, rfl, H, by omega⟩
      · intro m0 ρ0 s0 hI
        obtain ⟨i, e1, e5, e6, e7, hm0, H, hi⟩ := hI
        refine Wc.fix (k := 1) e1 ?_
        refine Wc.fix (k := 5) e5 ?_
        refine Wc.fix (k := 6) e6 ?_
        refine Wc.fix (k := 7) e7 ?_
        have hrl := runP_length (al := bs.flatten) (gap := gapN bs (bs.length - 1)) (xs := startP (tot bs + 1)) (by rw [hgl]; simp [startP]) (w.take i)
        refine Wc.seq ?_
        refine Wc.seq ?_
        refine Wc.reg ?_
        refine Wo.op (Step.move (by conv => lhs; whnf)) ?_
        refine Wo.op (Step.move (by conv => lhs; whnf)) ?_
        refine Wo.op (Step.lenStrG rfl) ?_
        refine Wo.op (Step.lss rfl rfl) ?_
        refine Wo.nil ?_
        refine Wc.ite rfl (fun hc23 => ?_) (fun hc23 => ?_)
        · skip
          refine Wc.skip ?_
          refine Wc.seq ?_
          refine Wc.block ?_
          refine Wc.draw ?_
          refine Wd.read rfl (Step.loadN rfl (H.row 2 rfl) (by rfl)) ?_
          refine Wd.pure rfl (Step.move (by conv => lhs; whnf)) ?_
          refine Wd.pure rfl (Step.move (by conv => lhs; whnf)) ?_
          refine Wd.pure rfl (Step.move (by conv => lhs; whnf)) ?_
          refine Wd.pure rfl (Step.idxStrG rfl rfl (by omega) (by omega)) ?_
          have hgw := (hwo.2.2.2 _ (getu_mem (w := w) (i := ((i : Nat) : Int)) (by omega) (by omega))).1
          have hgb := getu_lt w ((i : Nat) : Int)
          refine Wd.pure rfl (Step.sub8 (b := 97) rfl rfl (by omega)) ?_
          refine Wd.pure rfl (Step.conv64 rfl (by omega)) ?_
          -- call pattern_runner_step
          refine Wd.call (Wf.mono (pattern_runner_step_ok (al := bs.flatten) ((H.brow 1 rfl (by rw [gapN_length]; omega)).mono (fun B h _ => h)) (fun A h => h) (by rw [gapN_length, tot_flat]) (hrl) (by omega) (flat_ok hok)) ?_)
          rintro _ s7 ⟨rfl, c7⟩
          have H := H.pur c7
          refine ⟨⟨fun h => absurd h (by omega), trivial⟩, ?_⟩
          refine Wd.pure rfl (Step.move (by conv => lhs; whnf)) ?_
          refine Wd.nil ?_
          refine Wc.reg ?_
          refine Wo.op (Step.move (by conv => lhs; whnf)) ?_
          refine Wo.op (Step.add (b := 1) rfl rfl (by omega)) ?_
          refine Wo.op (Step.move (by conv => lhs; whnf)) ?_
          refine Wo.nil ?_
          have e : runP bs.flatten (gapN bs (bs.length - 1)) (startP (tot bs + 1)) (w.take (i + 1)) = nextP bs.flatten (gapN bs (bs.length - 1)) (runP bs.flatten (gapN bs (bs.length - 1)) (startP (tot bs + 1)) (w.take i)) (((((getu w ((i : Nat) : Int)).toNat : Nat) : Int)) - 97) := by rw [take_getu (by omega), runP_snoc]
          exact ⟨_, by omega, i + 1, rfl, rfl, by rw [e]; rfl, rfl, rfl, H, by omega⟩
        · skip
          refine Wc.exit ?_
          refine .inl ⟨rfl, ?_⟩
          have e : i = w.length := by omega
          subst e
          exact ⟨rfl, by rw [List.take_length]; rfl, H⟩
      · intro ρx0 sx0 hP
        obtain ⟨e5, e6, H⟩ := hP
        show Wc _ _ _ _ _ _ _
        refine Wc.fix (k := 5) e5 ?_
        refine Wc.fix (k := 6) e6 ?_
        refine Wc.seq ?_
        refine Wc.reg ?_
        refine Wo.op (Step.loadN rfl (H.row 2 rfl) (by rfl)) ?_
        refine Wo.op (Step.move (by conv => lhs; whnf)) ?_
        -- call pattern_runner_ends
        have hrl := runP_length (al := bs.flatten) (gap := gapN bs (bs.length - 1)) (xs := startP (tot bs + 1)) (by rw [hgl]; simp [startP]) w
        refine Wo.call (Wf.mono (pattern_runner_ends_ok (al := bs.flatten) ((H.brow 1 rfl (by rw [gapN_length]; omega)).mono (fun B h _ => h)) (fun A h => h) (by omega)) ?_)
        rintro _ s8 ⟨rfl, c8⟩
        have H := H.pur c8
        refine Wo.op (Step.move (by conv => lhs; whnf)) ?_
        refine Wo.nil ?_
        refine Wc.ret ⟨_, Rs.tmp (by conv => lhs; whnf) (Rs.nil), ?_⟩
        exact ⟨congrArg Value.bool (match_end hv0 hwo), H.topur⟩
end Go.EvK
end

section
set_option linter.unusedVariables false
set_option maxRecDepth 100000
set_option maxHeartbeats 4000000
namespace Go.EvK
open Go Go.Ev Go.EvW Go.Co
theorem ref33_match_ok {s : St} {P : Nat → Prop} {vB : Value} {bs : List (List UInt8)} {w : List UInt8} (hB : IsStrs s P vB bs) (hPN : ∀ A, P A → A < s.nextId) (h1 : 1 ≤ bs.length) (hln : bs.length ≤ 1000) (hb : ∀ b, b ∈ bs → b.length ≤ 281474976710656) (hw : w.length ≤ 281474976710656) :
    Wf kprog n_ref33_match [vB, .string ⟨⟨w⟩⟩] s (fun v s' => v = .bool (mtB bs w) ∧ Pur s s') := by
  have H := Hs.start s
  have hg0 := hb _ (gets_mem' (xs := bs) (i := 0) (by omega))
  have e0 : gets bs 0 = gets bs ((0 : Nat) : Int) := rfl
  refine Wf.of p_ref33_match rfl ?_
  unfold c_ref33_match
  refine Wc.seq ?_
  refine Wc.reg ?_
  refine Wo.op (Step.move (by conv => lhs; whnf)) ?_
  refine Wo.nil ?_
  refine Wc.seq ?_
  refine Wc.reg ?_
  refine Wo.op (Step.move (by conv => lhs; whnf)) ?_
  refine Wo.idxS (i := 0) rfl (hB.at H hPN) rfl (by first | omega | (simp; omega)) (by first | omega | (simp; omega)) ?_
  intro p12
  rw [e0]
  refine Wo.op (Step.move (by conv => lhs; whnf)) ?_
  refine Wo.nil ?_
  refine Wc.seq ?_
  refine Wc.seq ?_
  refine Wc.reg ?_
  refine Wo.op (Step.move (by conv => lhs; whnf)) ?_
  refine Wo.op (Step.lenStrG rfl) ?_
  refine Wo.op (Step.move (by conv => lhs; whnf)) ?_
  refine Wo.op (Step.lenStrG rfl) ?_
  refine Wo.op (Step.lss rfl rfl) ?_
  refine Wo.op (Step.move (by conv => lhs; whnf)) ?_
  refine Wo.cases (j := 19) rfl (fun hc19 => ?_) (fun hc19 => ?_)
  · skip
    refine Wo.off rfl rfl ?_
    refine Wo.off rfl rfl ?_
    refine Wo.off rfl rfl ?_
    refine Wo.off rfl rfl ?_
    refine Wo.off rfl rfl ?_
    refine Wo.off rfl rfl ?_
    refine Wo.op (Step.pickT rfl (by conv => lhs; whnf)) ?_
    refine Wo.nil ?_
    refine Wc.yes rfl ?_
    refine Wc.seq ?_
    refine Wc.reg ?_
    refine Wo.op (Step.move (by conv => lhs; whnf)) ?_
    refine Wo.nil ?_
    refine Wc.ret ⟨_, Rs.tmp (by conv => lhs; whnf) (Rs.nil), ?_⟩
    exact ⟨congrArg Value.bool ((mt_fail1 (by omega)).symm), H.topur⟩
  · skip
    refine Wo.on rfl ?_
    refine Wo.op (Step.move (by conv => lhs; whnf)) ?_
    refine Wo.on rfl ?_
    refine Wo.op (Step.move (by conv => lhs; whnf)) ?_
    refine Wo.on rfl ?_
    refine Wo.op (Step.lenStrG rfl) ?_
    refine Wo.on rfl ?_
    refine Wo.op (Step.subS rfl Bnd.none (Bnd.some rfl (by omega)) (by omega) (by omega)) ?_
    refine Wo.on rfl ?_
    refine Wo.op (Step.move (by conv => lhs; whnf)) ?_
    refine Wo.on rfl ?_
    refine Wo.op (Step.sneq rfl rfl) ?_
    refine Wo.op (Step.pickF rfl (by conv => lhs; whnf)) ?_
    refine Wo.nil ?_
    refine Wc.ite rfl (fun hc26 => ?_) (fun hc26 => ?_)
    · skip
      refine Wc.seq ?_
      refine Wc.reg ?_
      refine Wo.op (Step.move (by conv => lhs; whnf)) ?_
      refine Wo.nil ?_
      refine Wc.ret ⟨_, Rs.tmp (by conv => lhs; whnf) (Rs.nil), ?_⟩
      exact ⟨congrArg Value.bool ((mt_fail2 (fun h => hc26 (by rw [sub_pre]; exact h))).symm), H.topur⟩
    · skip
      have hpre : w.take (gets bs ((0 : Nat) : Int)).length = gets bs ((0 : Nat) : Int) := sub_pre.symm.trans (Classical.not_not.1 hc26)
      refine Wc.skip ?_
      refine Wc.seq ?_
      refine Wc.reg ?_
      refine Wo.op (Step.move (by conv => lhs; whnf)) ?_
      refine Wo.op (Step.move (by conv => lhs; whnf)) ?_
      refine Wo.op (Step.lenStrG rfl) ?_
      refine Wo.op (Step.subS rfl (Bnd.some rfl (by omega)) Bnd.none (by omega) (by omega)) ?_
      rw [sub_suf (by omega)]
      refine Wo.op (Step.move (by conv => lhs; whnf)) ?_
      refine Wo.nil ?_
      refine Wc.seq ?_
      refine Wc.seq ?_
      refine Wc.reg ?_
      refine Wo.op (Step.move (by conv => lhs; whnf)) ?_
      refine Wo.op (Step.lenSl rfl (hB.at H hPN)) ?_
      refine Wo.op (Step.eql (b := 1) rfl rfl) ?_
      refine Wo.nil ?_
      refine Wc.ite rfl (fun hc33 => ?_) (fun hc33 => ?_)
      · skip
        refine Wc.seq ?_
        refine Wc.reg ?_
        refine Wo.op (Step.move (by conv => lhs; whnf)) ?_
        refine Wo.op (Step.seql rfl rfl) ?_
        refine Wo.op (Step.move (by conv => lhs; whnf)) ?_
        refine Wo.nil ?_
        refine Wc.ret ⟨_, Rs.tmp (by conv => lhs; whnf) (Rs.nil), ?_⟩
        exact ⟨congrArg Value.bool ((mt_one (by omega) hpre).symm), H.topur⟩
      · skip
        refine Wc.skip ?_
        refine Wc.seq ?_
        refine Wc.seq ?_
        refine Wc.reg ?_
        refine Wo.op (Step.move (by conv => lhs; whnf)) ?_
        refine Wo.nil ?_
        refine Wc.mid (fun ρ' s' => ∃ (i : Nat) (w' : List UInt8), (ρ' 0 = vB) ∧ (ρ' 1 = .string ⟨⟨w'⟩⟩) ∧ (Hs s.nextId s s' []) ∧ (i + 1 = bs.length) ∧ (w'.length ≤ w.length) ∧ (Mt bs w ↔ tailM (bs.drop i) w')) (Wc.block (Wc.loop (fun m ρ' s' => ∃ (i : Nat) (w' : List UInt8), (ρ' 0 = vB) ∧ (ρ' 1 = .string ⟨⟨w'⟩⟩) ∧ (ρ' 6 = .int .i64 ((i : Nat) : Int)) ∧ m = bs.length - i ∧ (Hs s.nextId s s' []) ∧ (i + 1 ≤ bs.length) ∧ (w'.length ≤ w.length) ∧ (Mt bs w ↔ tailM (bs.drop i) w')) ?_ ?_)) ?_
        · skip
          exact ⟨_, 1, _, rfl, rfl, rfl, rfl, H, by omega, by simp, mt_go (by omega) hpre⟩
        · intro m0 ρ0 s0 hI
          obtain ⟨i, w', e0, e1, e6, hm0, H, hi, hwl, hM⟩ := hI
          refine Wc.fix (k := 0) e0 ?_
          refine Wc.fix (k := 1) e1 ?_
          refine Wc.fix (k := 6) e6 ?_
          have hgi := hb _ (gets_mem' (xs := bs) (i := i) (by omega))
          refine Wc.seq ?_
          refine Wc.seq ?_
          refine Wc.reg ?_
          refine Wo.op (Step.move (by conv => lhs; whnf)) ?_
          refine Wo.op (Step.move (by conv => lhs; whnf)) ?_
          refine Wo.op (Step.lenSl rfl (hB.at H hPN)) ?_
          refine Wo.op (Step.sub (b := 1) rfl rfl (by omega)) ?_
          refine Wo.op (Step.lss rfl rfl) ?_
          refine Wo.nil ?_
          refine Wc.ite rfl (fun hc40 => ?_) (fun hc40 => ?_)
          · skip
            refine Wc.skip ?_
            refine Wc.seq ?_
            refine Wc.block ?_
            refine Wc.seq ?_
            refine Wc.reg ?_
            refine Wo.op (Step.move (by conv => lhs; whnf)) ?_
            refine Wo.op (Step.move (by conv => lhs; whnf)) ?_
            refine Wo.idxS rfl (hB.at H hPN) rfl (by first | omega | (simp; omega)) (by first | omega | (simp; omega)) ?_
            intro p45
            refine Wo.op (Step.move (by conv => lhs; whnf)) ?_
            refine Wo.op (Step.move (by conv => lhs; whnf)) ?_
            refine Wo.nil ?_
            refine Wc.seq ?_
            refine Wc.seq ?_
            refine Wc.reg ?_
            refine Wo.op (Step.move (by conv => lhs; whnf)) ?_
            refine Wo.nil ?_
            refine Wc.mid (fun ρ' s' => ∃ (p : Int), (ρ' 0 = vB) ∧ (ρ' 1 = .string ⟨⟨w'⟩⟩) ∧ (ρ' 6 = .int .i64 ((i : Nat) : Int)) ∧ (ρ' 7 = .string ⟨⟨gets bs ((i : Nat) : Int)⟩⟩) ∧ (ρ' 8 = .int .i64 p) ∧ (Hs s.nextId s s' []) ∧ (FindX w' (gets bs ((i : Nat) : Int)) p)) (Wc.block (Wc.loop (fun m ρ' s' => ∃ (k : Nat) (p : Int), (ρ' 0 = vB) ∧ (ρ' 1 = .string ⟨⟨w'⟩⟩) ∧ (ρ' 6 = .int .i64 ((i : Nat) : Int)) ∧ (ρ' 7 = .string ⟨⟨gets bs ((i : Nat) : Int)⟩⟩) ∧ (ρ' 8 = .int .i64 p) ∧ (ρ' 9 = .int .i64 ((k : Nat) : Int)) ∧ m = w'.length + 1 - k ∧ (Hs s.nextId s s' []) ∧ (k ≤ w'.length + 1) ∧ (FindI w' (gets bs ((i : Nat) : Int)) k p)) ?_ ?_)) ?_
            · skip
              exact ⟨_, 0, _, rfl, rfl, rfl, rfl, rfl, rfl, rfl, H, by omega, FindI.zero _ _⟩
            · intro m2 ρ2 s2 hI
              obtain ⟨k, p, e0, e1, e6, e7, e8, e9, hm2, H, hk, hF⟩ := hI
              refine Wc.fix (k := 0) e0 ?_
              refine Wc.fix (k := 1) e1 ?_
              refine Wc.fix (k := 6) e6 ?_
              refine Wc.fix (k := 7) e7 ?_
              refine Wc.fix (k := 8) e8 ?_
              refine Wc.fix (k := 9) e9 ?_
              refine Wc.seq ?_
              refine Wc.seq ?_
              refine Wc.reg ?_
              refine Wo.op (Step.move (by conv => lhs; whnf)) ?_
              refine Wo.op (Step.move (by conv => lhs; whnf)) ?_
              refine Wo.op (Step.lenStrG rfl) ?_
              refine Wo.op (Step.add rfl rfl (by omega)) ?_
              refine Wo.op (Step.move (by conv => lhs; whnf)) ?_
              refine Wo.op (Step.lenStrG rfl) ?_
              refine Wo.op (Step.leq rfl rfl) ?_
              refine Wo.op (Step.move (by conv => lhs; whnf)) ?_
              refine Wo.cases (j := 54) rfl (fun hc54 => ?_) (fun hc54 => ?_)
              · skip
                refine Wo.on rfl ?_
                refine Wo.op (Step.move (by conv => lhs; whnf)) ?_
                refine Wo.on rfl ?_
                refine Wo.op (Step.eql (b := (-1)) rfl rfl) ?_
                refine Wo.op (Step.pickT rfl (by conv => lhs; whnf)) ?_
                refine Wo.nil ?_
                refine Wc.ite rfl (fun hc57 => ?_) (fun hc57 => ?_)
                · skip
                  refine Wc.skip ?_
                  refine Wc.seq ?_
                  refine Wc.block ?_
                  refine Wc.seq ?_
                  refine Wc.reg ?_
                  refine Wo.op (Step.move (by conv => lhs; whnf)) ?_
                  refine Wo.op (Step.move (by conv => lhs; whnf)) ?_
                  refine Wo.op (Step.move (by conv => lhs; whnf)) ?_
                  refine Wo.op (Step.move (by conv => lhs; whnf)) ?_
                  refine Wo.op (Step.lenStrG rfl) ?_
                  refine Wo.op (Step.add rfl rfl (by omega)) ?_
                  refine Wo.op (Step.subS rfl (Bnd.some rfl (by omega)) (Bnd.some rfl (by omega)) (by omega) (by omega)) ?_
                  refine Wo.op (Step.move (by conv => lhs; whnf)) ?_
                  refine Wo.op (Step.seql rfl rfl) ?_
                  refine Wo.nil ?_
                  refine Wc.ite rfl (fun hc68 => ?_) (fun hc68 => ?_)
                  · skip
                    refine Wc.reg ?_
                    refine Wo.op (Step.move (by conv => lhs; whnf)) ?_
                    refine Wo.op (Step.move (by conv => lhs; whnf)) ?_
                    refine Wo.nil ?_
                    refine Wc.reg ?_
                    refine Wo.op (Step.move (by conv => lhs; whnf)) ?_
                    refine Wo.op (Step.add (b := 1) rfl rfl (by omega)) ?_
                    refine Wo.op (Step.move (by conv => lhs; whnf)) ?_
                    refine Wo.nil ?_
                    exact ⟨_, by omega, k + 1, (k : Int), rfl, rfl, rfl, rfl, rfl, rfl, rfl, H, by omega, hF.yes hc57 (by omega) (by rw [← sub_at]; exact hc68)⟩
                  · skip
                    refine Wc.skip ?_
                    refine Wc.reg ?_
                    refine Wo.op (Step.move (by conv => lhs; whnf)) ?_
                    refine Wo.op (Step.add (b := 1) rfl rfl (by omega)) ?_
                    refine Wo.op (Step.move (by conv => lhs; whnf)) ?_
                    refine Wo.nil ?_
                    exact ⟨_, by omega, k + 1, p, rfl, rfl, rfl, rfl, rfl, rfl, rfl, H, by omega, hF.no hc57 (fun h => hc68 (by rw [sub_at]; exact h))⟩
                · skip
                  refine Wc.exit ?_
                  refine .inl ⟨rfl, ?_⟩
                  exact ⟨_, rfl, rfl, rfl, rfl, rfl, H, hF.stop (.inr hc57)⟩
              · skip
                refine Wo.off rfl rfl ?_
                refine Wo.off rfl rfl ?_
                refine Wo.op (Step.pickF rfl (by conv => lhs; whnf)) ?_
                refine Wo.nil ?_
                refine Wc.no rfl ?_
                refine Wc.exit ?_
                refine .inl ⟨rfl, ?_⟩
                exact ⟨_, rfl, rfl, rfl, rfl, rfl, H, hF.stop (.inl (by omega))⟩
            · intro ρx2 sx2 hP
              obtain ⟨p, e0, e1, e6, e7, e8, H, hX⟩ := hP
              show Wc _ _ _ _ _ _ _
              refine Wc.fix (k := 0) e0 ?_
              refine Wc.fix (k := 1) e1 ?_
              refine Wc.fix (k := 6) e6 ?_
              refine Wc.fix (k := 7) e7 ?_
              refine Wc.fix (k := 8) e8 ?_
              refine Wc.seq ?_
              refine Wc.seq ?_
              refine Wc.reg ?_
              refine Wo.op (Step.move (by conv => lhs; whnf)) ?_
              refine Wo.op (Step.eql (b := (-1)) rfl rfl) ?_
              refine Wo.nil ?_
              refine Wc.ite rfl (fun hc71 => ?_) (fun hc71 => ?_)
              · skip
                have hX := hX.resolve_right (fun ⟨j0, h, _⟩ => by omega)
                refine Wc.seq ?_
                refine Wc.reg ?_
                refine Wo.op (Step.move (by conv => lhs; whnf)) ?_
                refine Wo.nil ?_
                refine Wc.ret ⟨_, Rs.tmp (by conv => lhs; whnf) (Rs.nil), ?_⟩
                exact ⟨congrArg Value.bool (mt_no hM (tail_none (by omega) hX.2)), H.topur⟩
              · skip
                obtain ⟨j0, rfl, hj1, hj2, hj3⟩ := hX.resolve_left (fun h => hc71 h.1)
                refine Wc.skip ?_
                refine Wc.reg ?_
                refine Wo.op (Step.move (by conv => lhs; whnf)) ?_
                refine Wo.op (Step.move (by conv => lhs; whnf)) ?_
                refine Wo.op (Step.move (by conv => lhs; whnf)) ?_
                refine Wo.op (Step.lenStrG rfl) ?_
                refine Wo.op (Step.add rfl rfl (by omega)) ?_
                refine Wo.op (Step.subS rfl (Bnd.some rfl (by omega)) Bnd.none (by omega) (by omega)) ?_
                rw [sub_sum (by omega)]
                refine Wo.op (Step.move (by conv => lhs; whnf)) ?_
                refine Wo.nil ?_
                refine Wc.reg ?_
                refine Wo.op (Step.move (by conv => lhs; whnf)) ?_
                refine Wo.op (Step.add (b := 1) rfl rfl (by omega)) ?_
                refine Wo.op (Step.move (by conv => lhs; whnf)) ?_
                refine Wo.nil ?_
                exact ⟨_, by omega, i + 1, _, rfl, rfl, rfl, rfl, H, by omega, by rw [List.length_drop]; omega, hM.trans (tail_first (by omega) hj1 hj2 hj3)⟩
          · skip
            refine Wc.exit ?_
            refine .inl ⟨rfl, ?_⟩
            exact ⟨_, _, rfl, rfl, H, by omega, hwl, hM⟩
        · intro ρx0 sx0 hP
          obtain ⟨i, w', e0, e1, H, hi, hwl, hM⟩ := hP
          show Wc _ _ _ _ _ _ _
          refine Wc.fix (k := 0) e0 ?_
          refine Wc.fix (k := 1) e1 ?_
          have hgi := hb _ (gets_mem' (xs := bs) (i := i) (by omega))
          refine Wc.seq ?_
          refine Wc.reg ?_
          refine Wo.op (Step.move (by conv => lhs; whnf)) ?_
          refine Wo.op (Step.move (by conv => lhs; whnf)) ?_
          refine Wo.op (Step.lenSl rfl (hB.at H hPN)) ?_
          refine Wo.op (Step.sub (b := 1) rfl rfl (by omega)) ?_
          refine Wo.idxS rfl (hB.at H hPN) rfl (by first | omega | (simp; omega)) (by first | omega | (simp; omega)) ?_
          intro p82
          rw [show ((bs.length : Nat) : Int) - 1 = ((i : Nat) : Int) by omega]
          refine Wo.op (Step.move (by conv => lhs; whnf)) ?_
          refine Wo.nil ?_
          refine Wc.seq ?_
          refine Wc.reg ?_
          refine Wo.op (Step.move (by conv => lhs; whnf)) ?_
          refine Wo.op (Step.lenStrG rfl) ?_
          refine Wo.op (Step.move (by conv => lhs; whnf)) ?_
          refine Wo.op (Step.lenStrG rfl) ?_
          refine Wo.op (Step.geq rfl rfl) ?_
          refine Wo.op (Step.move (by conv => lhs; whnf)) ?_
          refine Wo.cases (j := 89) rfl (fun hc89 => ?_) (fun hc89 => ?_)
          · skip
            refine Wo.on rfl ?_
            refine Wo.op (Step.move (by conv => lhs; whnf)) ?_
            refine Wo.on rfl ?_
            refine Wo.op (Step.move (by conv => lhs; whnf)) ?_
            refine Wo.on rfl ?_
            refine Wo.op (Step.lenStrG rfl) ?_
            refine Wo.on rfl ?_
            refine Wo.op (Step.move (by conv => lhs; whnf)) ?_
            refine Wo.on rfl ?_
            refine Wo.op (Step.lenStrG rfl) ?_
            refine Wo.on rfl ?_
            refine Wo.op (Step.sub rfl rfl (by omega)) ?_
            refine Wo.on rfl ?_
            refine Wo.op (Step.subS rfl (Bnd.some rfl (by omega)) Bnd.none (by omega) (by omega)) ?_
            rw [sub_dif (by omega) rfl]
            refine Wo.on rfl ?_
            refine Wo.op (Step.move (by conv => lhs; whnf)) ?_
            refine Wo.on rfl ?_
            refine Wo.op (Step.seql rfl rfl) ?_
            refine Wo.op (Step.pickT rfl (by conv => lhs; whnf)) ?_
            refine Wo.op (Step.move (by conv => lhs; whnf)) ?_
            refine Wo.nil ?_
            refine Wc.ret ⟨_, Rs.tmp (by conv => lhs; whnf) (Rs.nil), ?_⟩
            exact ⟨congrArg Value.bool (mt_end hi hM _ (by rw [decide_eq_true_iff]; exact ⟨fun h => ⟨by omega, h⟩, fun h => h.2⟩)), H.topur⟩
          · skip
            refine Wo.off rfl rfl ?_
            refine Wo.off rfl rfl ?_
            refine Wo.off rfl rfl ?_
            refine Wo.off rfl rfl ?_
            refine Wo.off rfl rfl ?_
            refine Wo.off rfl rfl ?_
            refine Wo.off rfl rfl ?_
            refine Wo.off rfl rfl ?_
            refine Wo.off rfl rfl ?_
            refine Wo.op (Step.pickF rfl (by conv => lhs; whnf)) ?_
            refine Wo.op (Step.move (by conv => lhs; whnf)) ?_
            refine Wo.nil ?_
            refine Wc.ret ⟨_, Rs.tmp (by conv => lhs; whnf) (Rs.nil), ?_⟩
            exact ⟨congrArg Value.bool (mt_end hi hM false (by constructor; intro h; cases h; intro h; omega)), H.topur⟩
end Go.EvK
end
