/- Walks: diagrams, the law. -/
import Derived.Test.YtehpiiimckodmaaEw1
import Derived.Test.YtehpiiimckodmaaWl0
import Derived.Test.YtehpiiimckodmaaK34b
set_option linter.unusedVariables false
set_option linter.unusedSimpArgs false
section
set_option linter.unusedVariables false
set_option maxRecDepth 100000
set_option maxHeartbeats 4000000
namespace Go.EvK
open Go Go.Ev Go.EvW Go.Co
theorem ref33_Match_ok {s : St} {P : Nat → Prop} {vB : Value} {bs : List (List UInt8)} {w : List UInt8} (hB : IsStrs s P vB bs) (hPN : ∀ A, P A → A < s.nextId) (hln : bs.length ≤ 1000) (hb : ∀ b, b ∈ bs → b.length ≤ 281474976710656) (hw : w.length ≤ 281474976710656) :
    Wf kprog n_ref33_Match [.agg ⟨[vB]⟩, .string ⟨⟨w⟩⟩] s (fun v s' => v = .bool (matchP bs w) ∧ Pur s s') := by
  have H := Hs.start s
  refine Wf.of p_ref33_Match rfl ?_
  unfold c_ref33_Match
  refine Wc.seq ?_
  refine Wc.reg ?_
  refine Wo.boxH H (by conv => lhs; whnf) ?_
  intro sB2 H nB2
  refine Wo.op (Step.move (by conv => lhs; whnf)) ?_
  refine Wo.nil ?_
  refine Wc.seq ?_
  refine Wc.reg ?_
  refine Wo.op (Step.loadN rfl (H.row 0 rfl) (by rfl)) ?_
  -- call ref33_Validate
  refine Wo.call (Wf.mono (ref33_Validate_ok (L := 6) (hB.at H hPN) (fun A h => by have := hPN A h; have := H.le; omega) ⟨by omega, by omega⟩ (by omega) hb hln) ?_)
  rintro _ s1 ⟨rfl, c1⟩
  have H := H.pur c1
  refine Wo.op (Step.eql (b := 0) rfl rfl) ?_
  refine Wo.op (Step.move (by conv => lhs; whnf)) ?_
  refine Wo.cases (j := 8) rfl (fun hc8 => ?_) (fun hc8 => ?_)
  · skip
    refine Wo.on rfl ?_
    refine Wo.op (Step.move (by conv => lhs; whnf)) ?_
    refine Wo.on rfl ?_
    -- call ref01_Valid
    refine Wo.call (Wf.mono (ref01_Valid_ok (w := w) (k := 6) ⟨by omega, by omega⟩ (by omega)) ?_)
    rintro _ _ ⟨rfl, rfl⟩
    refine Wo.op (Step.pickT rfl (by conv => lhs; whnf)) ?_
    refine Wo.op (Step.move (by conv => lhs; whnf)) ?_
    refine Wo.cases (j := 12) rfl (fun hc12 => ?_) (fun hc12 => ?_)
    · skip
      obtain ⟨_, _, h8, hT, hne, hok⟩ := validP_zero hc8
      refine Wo.on rfl ?_
      refine Wo.op (Step.faddr rfl) ?_
      refine Wo.on rfl ?_
      refine Wo.op (Step.load rfl (H.row 0 rfl) (by rfl)) ?_
      refine Wo.on rfl ?_
      refine Wo.op (Step.move (by conv => lhs; whnf)) ?_
      refine Wo.on rfl ?_
      -- call ref33_match
      refine Wo.call (Wf.mono (ref33_match_ok (hB.at H hPN) (fun A h => by have := hPN A h; have := H.le; omega) (by have := List.length_pos_iff.2 hne; omega) hln hb hw) ?_)
      rintro _ s2 ⟨rfl, c2⟩
      have H := H.pur c2
      refine Wo.op (Step.pickT rfl (by conv => lhs; whnf)) ?_
      refine Wo.op (Step.move (by conv => lhs; whnf)) ?_
      refine Wo.nil ?_
      refine Wc.ret ⟨_, Rs.tmp (by conv => lhs; whnf) (Rs.nil), ?_⟩
      exact ⟨congrArg Value.bool (by unfold matchP; simp [hc8, hc12]), H.topur⟩
    · skip
      refine Wo.off rfl rfl ?_
      refine Wo.off rfl rfl ?_
      refine Wo.off rfl rfl ?_
      refine Wo.off rfl rfl ?_
      refine Wo.op (Step.pickF rfl (by conv => lhs; whnf)) ?_
      refine Wo.op (Step.move (by conv => lhs; whnf)) ?_
      refine Wo.nil ?_
      refine Wc.ret ⟨_, Rs.tmp (by conv => lhs; whnf) (Rs.nil), ?_⟩
      exact ⟨congrArg Value.bool (by unfold matchP; simp [hc12]), H.topur⟩
  · skip
    refine Wo.off rfl rfl ?_
    refine Wo.off rfl rfl ?_
    refine Wo.op (Step.pickF rfl (by conv => lhs; whnf)) ?_
    refine Wo.op (Step.move (by conv => lhs; whnf)) ?_
    refine Wo.off rfl rfl ?_
    refine Wo.off rfl rfl ?_
    refine Wo.off rfl rfl ?_
    refine Wo.off rfl rfl ?_
    refine Wo.op (Step.pickF rfl (by conv => lhs; whnf)) ?_
    refine Wo.op (Step.move (by conv => lhs; whnf)) ?_
    refine Wo.nil ?_
    refine Wc.ret ⟨_, Rs.tmp (by conv => lhs; whnf) (Rs.nil), ?_⟩
    exact ⟨congrArg Value.bool (by unfold matchP; simp [hc8]), H.topur⟩
theorem combine_Validate_ok {s : St} {P : Nat → Prop} {vP vC : Value} {pats : List (List (List UInt8))} {chs : List (Int × Int × Int)} {root L : Int} (hP : Rep.str.sl.sl.ok s P [vP] pats) (hC : rCh.sl.ok s P [vC] chs) (hPN : ∀ A, P A → A < s.nextId) (hL : I64 L) (hR : I64 root) :
    Wf kprog n_combine_Validate [.agg ⟨[vP, vC, .int .i64 root]⟩, .int .i64 L] s (fun v s' => v = .int .i64 (validG L pats chs root) ∧ Pur s s') := by
  have H := Hs.start s
  have hpl := Rep.sl_le hP
  have hcl := Rep.sl_le hC
  refine Wf.of p_combine_Validate rfl ?_
  unfold c_combine_Validate
  refine Wc.seq ?_
  refine Wc.reg ?_
  refine Wo.boxH H (by conv => lhs; whnf) ?_
  intro sB2 H nB2
  refine Wo.op (Step.move (by conv => lhs; whnf)) ?_
  refine Wo.nil ?_
  refine Wc.seq ?_
  refine Wc.seq ?_
  refine Wc.reg ?_
  refine Wo.op (Step.move (by conv => lhs; whnf)) ?_
  refine Wo.op (Step.lss (b := 1) rfl rfl) ?_
  refine Wo.op (Step.move (by conv => lhs; whnf)) ?_
  refine Wo.cases (j := 14) rfl (fun hc14 => ?_) (fun hc14 => ?_)
  · skip
    refine Wo.off rfl rfl ?_
    refine Wo.off rfl rfl ?_
    refine Wo.op (Step.pickT rfl (by conv => lhs; whnf)) ?_
    refine Wo.nil ?_
    refine Wc.yes rfl ?_
    refine Wc.seq ?_
    refine Wc.reg ?_
    refine Wo.op (Step.move (by conv => lhs; whnf)) ?_
    refine Wo.nil ?_
    refine Wc.ret ⟨_, Rs.tmp (by conv => lhs; whnf) (Rs.nil), ?_⟩
    exact ⟨congrArg (Value.int .i64) (by unfold validG; rw [if_pos (by omega)]; rfl), H.topur⟩
  · skip
    refine Wo.on rfl ?_
    refine Wo.op (Step.move (by conv => lhs; whnf)) ?_
    refine Wo.on rfl ?_
    refine Wo.op (Step.gtr (b := 6) rfl rfl) ?_
    refine Wo.op (Step.pickF rfl (by conv => lhs; whnf)) ?_
    refine Wo.nil ?_
    refine Wc.ite rfl (fun hc17 => ?_) (fun hc17 => ?_)
    · skip
      refine Wc.seq ?_
      refine Wc.reg ?_
      refine Wo.op (Step.move (by conv => lhs; whnf)) ?_
      refine Wo.nil ?_
      refine Wc.ret ⟨_, Rs.tmp (by conv => lhs; whnf) (Rs.nil), ?_⟩
      exact ⟨congrArg (Value.int .i64) (by unfold validG; rw [if_pos (by omega)]; rfl), H.topur⟩
    · skip
      refine Wc.skip ?_
      refine Wc.seq ?_
      refine Wc.seq ?_
      refine Wc.reg ?_
      refine Wo.op (Step.faddr rfl) ?_
      refine Wo.op (Step.load rfl (H.row 0 rfl) (by rfl)) ?_
      refine Wo.op (Step.lenA rfl ((Rep.at hP H hPN))) ?_
      refine Wo.op (Step.gtr (b := 300) rfl rfl) ?_
      refine Wo.op (Step.move (by conv => lhs; whnf)) ?_
      refine Wo.cases (j := 22) rfl (fun hc22 => ?_) (fun hc22 => ?_)
      · skip
        refine Wo.off rfl rfl ?_
        refine Wo.off rfl rfl ?_
        refine Wo.off rfl rfl ?_
        refine Wo.off rfl rfl ?_
        refine Wo.op (Step.pickT rfl (by conv => lhs; whnf)) ?_
        refine Wo.nil ?_
        refine Wc.yes rfl ?_
        refine Wc.seq ?_
        refine Wc.reg ?_
        refine Wo.op (Step.move (by conv => lhs; whnf)) ?_
        refine Wo.nil ?_
        refine Wc.ret ⟨_, Rs.tmp (by conv => lhs; whnf) (Rs.nil), ?_⟩
        exact ⟨congrArg (Value.int .i64) (by unfold validG; rw [if_neg (by omega), if_pos (by omega)]; rfl), H.topur⟩
      · skip
        refine Wo.on rfl ?_
        refine Wo.op (Step.faddr rfl) ?_
        refine Wo.on rfl ?_
        refine Wo.op (Step.load rfl (H.row 0 rfl) (by rfl)) ?_
        refine Wo.on rfl ?_
        refine Wo.op (Step.lenA rfl ((Rep.at hC H hPN))) ?_
        refine Wo.on rfl ?_
        refine Wo.op (Step.gtr (b := 20000) rfl rfl) ?_
        refine Wo.op (Step.pickF rfl (by conv => lhs; whnf)) ?_
        refine Wo.nil ?_
        refine Wc.ite rfl (fun hc27 => ?_) (fun hc27 => ?_)
        · skip
          refine Wc.seq ?_
          refine Wc.reg ?_
          refine Wo.op (Step.move (by conv => lhs; whnf)) ?_
          refine Wo.nil ?_
          refine Wc.ret ⟨_, Rs.tmp (by conv => lhs; whnf) (Rs.nil), ?_⟩
          exact ⟨congrArg (Value.int .i64) (by unfold validG; rw [if_neg (by omega), if_pos (by omega)]; rfl), H.topur⟩
        · skip
          refine Wc.skip ?_
          refine Wc.seq ?_
          refine Wc.seq ?_
          refine Wc.reg ?_
          refine Wo.op (Step.faddr rfl) ?_
          refine Wo.op (Step.load rfl (H.row 0 rfl) (by rfl)) ?_
          refine Wo.op (Step.lenA rfl ((Rep.at hP H hPN))) ?_
          refine Wo.op (Step.move (by conv => lhs; whnf)) ?_
          refine Wo.nil ?_
          refine Wc.mid (fun ρ' s' => (ρ' 1 = .int .i64 L) ∧ (ρ' 2 = ptrV s.nextId 0) ∧ (Hs s.nextId s s' [Item.own s.nextId 0 [vP, vC, .int .i64 root]]) ∧ (∀ j, j < pats.length → validP L (getp pats (j : Nat)) = 0)) (Wc.block (Wc.loop (fun m ρ' s' => ∃ (i : Nat), (ρ' 1 = .int .i64 L) ∧ (ρ' 2 = ptrV s.nextId 0) ∧ (ρ' 29 = vP) ∧ (ρ' 30 = .int .i64 ((pats.length : Nat) : Int)) ∧ (ρ' 31 = .int .i64 ((i : Nat) : Int)) ∧ m = pats.length - i ∧ (Hs s.nextId s s' [Item.own s.nextId 0 [vP, vC, .int .i64 root]]) ∧ (i ≤ pats.length) ∧ (∀ j, j < i → validP L (getp pats (j : Nat)) = 0)) ?_ ?_)) ?_
          · skip
            exact ⟨_, 0, rfl, rfl, rfl, rfl, rfl, rfl, H, by omega, by intro j hj; omega⟩
          · intro m0 ρ0 s0 hI
            obtain ⟨i, e1, e2, e29, e30, e31, hm0, H, hi, hz⟩ := hI
            refine Wc.fix (k := 1) e1 ?_
            refine Wc.fix (k := 2) e2 ?_
            refine Wc.fix (k := 29) e29 ?_
            refine Wc.fix (k := 30) e30 ?_
            refine Wc.fix (k := 31) e31 ?_
            refine Wc.seq ?_
            refine Wc.reg ?_
            refine Wo.op (Step.lss rfl rfl) ?_
            refine Wo.nil ?_
            refine Wc.seq ?_
            refine Wc.ite rfl (fun hc32 => ?_) (fun hc32 => ?_)
            · skip
              refine Wc.skip ?_
              refine Wc.seq ?_
              refine Wc.block ?_
              refine Wc.seq ?_
              refine Wc.reg ?_
              refine Wo.idxP0 H rfl hP hPN rfl (by omega) (by omega) ?_
              intro p33 u34 hu34
              refine Wo.allocH H ?_
              intro sB6 H nB6
              refine Wo.storeH H 1 rfl rfl (by conv => lhs; whnf) (by rfl) (Sl.one ((strs_of hu34).1.at H hPN)) (by rfl) ?_
              intro sS0 H nS0
              refine Wo.nil ?_
              refine Wc.seq ?_
              refine Wc.reg ?_
              refine Wo.op (Step.loadN rfl (H.row 1 rfl) (by rfl)) ?_
              refine Wo.op (Step.move (by conv => lhs; whnf)) ?_
              -- call pattern_Validate
              refine Wo.call (Wf.mono (pattern_Validate_ok (L := L) ((strs_of hu34).1.at H hPN) (fun A h => by have := hPN A h; have := H.le; omega) hL (Rep.sl_le hu34) (strs_of hu34).2) ?_)
              rintro _ s1 ⟨rfl, c1⟩
              have H := H.pur c1
              refine Wo.op (Step.move (by conv => lhs; whnf)) ?_
              refine Wo.nil ?_
              refine Wc.seq ?_
              refine Wc.reg ?_
              refine Wo.op (Step.move (by conv => lhs; whnf)) ?_
              refine Wo.op (Step.neq (b := 0) rfl rfl) ?_
              refine Wo.nil ?_
              refine Wc.ite rfl (fun hc39 => ?_) (fun hc39 => ?_)
              · skip
                refine Wc.seq ?_
                refine Wc.reg ?_
                refine Wo.op (Step.move (by conv => lhs; whnf)) ?_
                refine Wo.op (Step.move (by conv => lhs; whnf)) ?_
                refine Wo.nil ?_
                refine Wc.ret ⟨_, Rs.tmp (by conv => lhs; whnf) (Rs.nil), ?_⟩
                exact ⟨congrArg (Value.int .i64) (validG_pat (by omega) (by omega) (by omega) hz hc39).symm, H.topur⟩
              · skip
                refine Wc.skip ?_
                refine Wc.reg ?_
                refine Wo.op (Step.add (b := 1) rfl rfl (by omega)) ?_
                refine Wo.op (Step.move (by conv => lhs; whnf)) ?_
                refine Wo.nil ?_
                refine ⟨_, ?_, i + 1, rfl, rfl, rfl, rfl, rfl, rfl, H.take 1, by omega, by intro j hj; by_cases e : j = i; subst e; exact Classical.not_not.1 hc39; exact hz j (by omega)⟩
                omega
            · skip
              refine Wc.exit ?_
              refine .inl ⟨rfl, ?_⟩
              exact ⟨rfl, rfl, H, fun j hj => hz j (by omega)⟩
          · intro ρx0 sx0 hP
            obtain ⟨e1, e2, H, hz⟩ := hP
            show Wc _ _ _ _ _ _ _
            refine Wc.fix (k := 1) e1 ?_
            refine Wc.fix (k := 2) e2 ?_
            refine Wc.seq ?_
            refine Wc.seq ?_
            refine Wc.reg ?_
            refine Wo.op (Step.faddr rfl) ?_
            refine Wo.op (Step.load rfl (H.row 0 rfl) (by rfl)) ?_
            refine Wo.op (Step.lenA rfl ((Rep.at hC H hPN))) ?_
            refine Wo.op (Step.move (by conv => lhs; whnf)) ?_
            refine Wo.nil ?_
            refine Wc.mid (fun ρ' s' => (ρ' 1 = .int .i64 L) ∧ (ρ' 2 = ptrV s.nextId 0) ∧ (Hs s.nextId s s' [Item.own s.nextId 0 [vP, vC, .int .i64 root]]) ∧ (∀ j, j < chs.length → ChOk pats.length chs j)) (Wc.block (Wc.loop (fun m ρ' s' => ∃ (i : Nat), (ρ' 1 = .int .i64 L) ∧ (ρ' 2 = ptrV s.nextId 0) ∧ (ρ' 43 = vC) ∧ (ρ' 44 = .int .i64 ((chs.length : Nat) : Int)) ∧ (ρ' 45 = .int .i64 ((i : Nat) : Int)) ∧ m = chs.length - i ∧ (Hs s.nextId s s' [Item.own s.nextId 0 [vP, vC, .int .i64 root]]) ∧ (i ≤ chs.length) ∧ (∀ j, j < i → ChOk pats.length chs j)) ?_ ?_)) ?_
            · skip
              exact ⟨_, 0, rfl, rfl, rfl, rfl, rfl, rfl, H, by omega, by intro j hj; omega⟩
            · intro m2 ρ2 s2 hI
              obtain ⟨i, e1, e2, e43, e44, e45, hm2, H, hi, hk⟩ := hI
              refine Wc.fix (k := 1) e1 ?_
              refine Wc.fix (k := 2) e2 ?_
              refine Wc.fix (k := 43) e43 ?_
              refine Wc.fix (k := 44) e44 ?_
              refine Wc.fix (k := 45) e45 ?_
              refine Wc.seq ?_
              refine Wc.reg ?_
              refine Wo.op (Step.lss rfl rfl) ?_
              refine Wo.nil ?_
              refine Wc.seq ?_
              refine Wc.ite rfl (fun hc46 => ?_) (fun hc46 => ?_)
              · skip
                refine Wc.skip ?_
                refine Wc.seq ?_
                refine Wc.block ?_
                refine Wc.seq ?_
                refine Wc.reg ?_
                refine Wo.op (Step.move (by conv => lhs; whnf)) ?_
                refine Wo.idxC rfl (Rep.at hC H hPN) rfl (by omega) (by omega) ?_
                intro p48 hu49 hv49 hw49
                refine Wo.allocH H ?_
                intro sB9 H nB9
                refine Wo.op (Step.move (by conv => lhs; whnf)) ?_
                refine Wo.storeH H 1 rfl rfl (by conv => lhs; whnf) (by rfl) (ones_cons (by rfl) (ones_cons (by rfl) (ones_cons (by rfl) (rfl)))) (by rfl) ?_
                intro sS1 H nS1
                refine Wo.nil ?_
                refine Wc.seq ?_
                refine Wc.seq ?_
                refine Wc.reg ?_
                refine Wo.op (Step.faddr rfl) ?_
                refine Wo.op (Step.load rfl (H.row 1 rfl) (by rfl)) ?_
                refine Wo.op (Step.lss (b := 0) rfl rfl) ?_
                refine Wo.op (Step.move (by conv => lhs; whnf)) ?_
                refine Wo.cases (j := 53) rfl (fun hc53 => ?_) (fun hc53 => ?_)
                · skip
                  refine Wo.off rfl rfl ?_
                  refine Wo.off rfl rfl ?_
                  refine Wo.off rfl rfl ?_
                  refine Wo.off rfl rfl ?_
                  refine Wo.off rfl rfl ?_
                  refine Wo.off rfl rfl ?_
                  refine Wo.op (Step.pickT rfl (by conv => lhs; whnf)) ?_
                  refine Wo.nil ?_
                  refine Wc.yes rfl ?_
                  refine Wc.seq ?_
                  refine Wc.reg ?_
                  refine Wo.op (Step.move (by conv => lhs; whnf)) ?_
                  refine Wo.nil ?_
                  refine Wc.ret ⟨_, Rs.tmp (by conv => lhs; whnf) (Rs.nil), ?_⟩
                  exact ⟨congrArg (Value.int .i64) (validG_ch (by omega) (by omega) hz (i := i) (by omega) (fun h => by have := h.1; omega)).symm, H.topur⟩
                · skip
                  refine Wo.on rfl ?_
                  refine Wo.op (Step.faddr rfl) ?_
                  refine Wo.on rfl ?_
                  refine Wo.op (Step.load rfl (H.row 1 rfl) (by rfl)) ?_
                  refine Wo.on rfl ?_
                  refine Wo.op (Step.faddr rfl) ?_
                  refine Wo.on rfl ?_
                  refine Wo.op (Step.load rfl (H.row 0 rfl) (by rfl)) ?_
                  refine Wo.on rfl ?_
                  refine Wo.op (Step.lenA rfl ((Rep.at hP H hPN))) ?_
                  refine Wo.on rfl ?_
                  refine Wo.op (Step.geq rfl rfl) ?_
                  refine Wo.op (Step.pickF rfl (by conv => lhs; whnf)) ?_
                  refine Wo.nil ?_
                  refine Wc.ite rfl (fun hc60 => ?_) (fun hc60 => ?_)
                  · skip
                    refine Wc.seq ?_
                    refine Wc.reg ?_
                    refine Wo.op (Step.move (by conv => lhs; whnf)) ?_
                    refine Wo.nil ?_
                    refine Wc.ret ⟨_, Rs.tmp (by conv => lhs; whnf) (Rs.nil), ?_⟩
                    exact ⟨congrArg (Value.int .i64) (validG_ch (by omega) (by omega) hz (i := i) (by omega) (fun h => by have := h.2.1; omega)).symm, H.topur⟩
                  · skip
                    refine Wc.skip ?_
                    refine Wc.seq ?_
                    refine Wc.reg ?_
                    refine Wo.op (Step.faddr rfl) ?_
                    refine Wo.op (Step.load rfl (H.row 1 rfl) (by rfl)) ?_
                    refine Wo.op (Step.faddr rfl) ?_
                    refine Wo.op (Step.load rfl (H.row 1 rfl) (by rfl)) ?_
                    refine Wo.buildSH H (Fill.cons (by conv => lhs; whnf) (by rfl) (by rfl) (by rfl) (Fill.cons (by conv => lhs; whnf) (by rfl) (by rfl) (by rfl) (Fill.nil _))) ?_
                    intro sM65 H nM65
                    refine Wo.op (Step.lenS rfl) ?_
                    refine Wo.op (Step.move (by conv => lhs; whnf)) ?_
                    refine Wo.nil ?_
                    refine Wc.mid (fun ρ' s' => (ρ' 2 = ptrV s.nextId 0) ∧ (ρ' 1 = .int .i64 L) ∧ (ρ' 43 = vC) ∧ (ρ' 44 = .int .i64 ((chs.length : Nat) : Int)) ∧ (ρ' 45 = .int .i64 ((i : Nat) : Int)) ∧ (Hs s.nextId s s' [Item.own s.nextId 0 [vP, vC, .int .i64 root], Item.own s2.nextId 0 [.int .i64 (getc chs ((i : Nat) : Int)).1, .int .i64 (getc chs ((i : Nat) : Int)).2.1, .int .i64 (getc chs ((i : Nat) : Int)).2.2], Item.own sS1.nextId 1 (enI [(getc chs ((i : Nat) : Int)).2.1, (getc chs ((i : Nat) : Int)).2.2])]) ∧ (∀ r, r < 2 → RefOk chs i (geti [(getc chs ((i : Nat) : Int)).2.1, (getc chs ((i : Nat) : Int)).2.2] ((r : Nat) : Int)))) (Wc.block (Wc.loop (fun m ρ' s' => ∃ (q : Nat), (ρ' 2 = ptrV s.nextId 0) ∧ (ρ' 8 = .int .i64 ((i : Nat) : Int)) ∧ (ρ' 9 = ptrV s2.nextId 0) ∧ (ρ' 1 = .int .i64 L) ∧ (ρ' 43 = vC) ∧ (ρ' 44 = .int .i64 ((chs.length : Nat) : Int)) ∧ (ρ' 45 = .int .i64 ((i : Nat) : Int)) ∧ (ρ' 65 = .slice (some ⟨sS1.nextId, 0, none⟩) 2 2) ∧ (ρ' 66 = .int .i64 ((2 : Nat) : Int)) ∧ (ρ' 67 = .int .i64 ((q : Nat) : Int)) ∧ m = 2 - q ∧ (Hs s.nextId s s' [Item.own s.nextId 0 [vP, vC, .int .i64 root], Item.own s2.nextId 0 [.int .i64 (getc chs ((i : Nat) : Int)).1, .int .i64 (getc chs ((i : Nat) : Int)).2.1, .int .i64 (getc chs ((i : Nat) : Int)).2.2], Item.own sS1.nextId 1 (enI [(getc chs ((i : Nat) : Int)).2.1, (getc chs ((i : Nat) : Int)).2.2])]) ∧ (q ≤ 2) ∧ (∀ r, r < q → RefOk chs i (geti [(getc chs ((i : Nat) : Int)).2.1, (getc chs ((i : Nat) : Int)).2.2] ((r : Nat) : Int)))) ?_ ?_)) ?_
                    · skip
                      exact ⟨_, 0, rfl, rfl, rfl, rfl, rfl, rfl, rfl, rfl, rfl, rfl, rfl, H, by omega, by intro r hr; omega⟩
                    · intro m4 ρ4 s4 hI
                      obtain ⟨q, e2, e8, e9, e1, e43, e44, e45, e65, e66, e67, hm4, H, hq2, hq⟩ := hI
                      refine Wc.fix (k := 2) e2 ?_
                      refine Wc.fix (k := 8) e8 ?_
                      refine Wc.fix (k := 9) e9 ?_
                      refine Wc.fix (k := 1) e1 ?_
                      refine Wc.fix (k := 43) e43 ?_
                      refine Wc.fix (k := 44) e44 ?_
                      refine Wc.fix (k := 45) e45 ?_
                      refine Wc.fix (k := 65) e65 ?_
                      refine Wc.fix (k := 66) e66 ?_
                      refine Wc.fix (k := 67) e67 ?_
                      have hgq := geti2 hv49 hw49 q
                      simp only [I64] at hgq
                      refine Wc.seq ?_
                      refine Wc.reg ?_
                      refine Wo.op (Step.lss rfl rfl) ?_
                      refine Wo.nil ?_
                      refine Wc.seq ?_
                      refine Wc.ite rfl (fun hc68 => ?_) (fun hc68 => ?_)
                      · skip
                        refine Wc.skip ?_
                        refine Wc.seq ?_
                        refine Wc.block ?_
                        refine Wc.seq ?_
                        refine Wc.reg ?_
                        refine Wo.idxI rfl (H.orow 2 (by rfl) (by first | rfl | omega | (simp; done) | (simp; omega) | (simp; done) | (simp; omega))) rfl (by first | omega | (simp; omega)) (by first | omega | (simp; omega)) ?_
                        intro p69
                        refine Wo.op (Step.move (by conv => lhs; whnf)) ?_
                        refine Wo.nil ?_
                        refine Wc.seq ?_
                        refine Wc.draw ?_
                        refine Wd.pure rfl (Step.move (by conv => lhs; whnf)) ?_
                        refine Wd.pure rfl (Step.lss (b := 0) rfl rfl) ?_
                        refine Wd.pure rfl (Step.move (by conv => lhs; whnf)) ?_
                        refine Wd.cases (j := 73) rfl (fun hc73 => ?_) (fun hc73 => ?_)
                        · skip
                          refine Wd.off rfl rfl rfl ?_
                          refine Wd.off rfl rfl rfl ?_
                          refine Wd.off rfl rfl rfl ?_
                          refine Wd.off rfl rfl rfl ?_
                          refine Wd.pure rfl (Step.pickT rfl (by conv => lhs; whnf)) ?_
                          refine Wd.pure rfl (Step.move (by conv => lhs; whnf)) ?_
                          refine Wd.off rfl rfl rfl ?_
                          refine Wd.off rfl rfl rfl ?_
                          refine Wd.off rfl rfl rfl ?_
                          refine Wd.offU rfl rfl ?_
                          refine Wd.offU rfl rfl ?_
                          refine Wd.offU rfl rfl ?_
                          refine Wd.offU rfl rfl ?_
                          refine Wd.offU rfl rfl ?_
                          refine Wd.offU rfl rfl ?_
                          refine Wd.offU rfl rfl ?_
                          refine Wd.offU rfl rfl ?_
                          refine Wd.offU rfl rfl ?_
                          refine Wd.offU rfl rfl ?_
                          refine Wd.off rfl rfl rfl ?_
                          refine Wd.pure rfl (Step.pickT rfl (by conv => lhs; whnf)) ?_
                          refine Wd.nil ?_
                          refine Wc.yes rfl ?_
                          refine Wc.seq ?_
                          refine Wc.reg ?_
                          refine Wo.op (Step.move (by conv => lhs; whnf)) ?_
                          refine Wo.nil ?_
                          refine Wc.ret ⟨_, Rs.tmp (by conv => lhs; whnf) (Rs.nil), ?_⟩
                          exact ⟨congrArg (Value.int .i64) (validG_ch (by omega) (by omega) hz (i := i) (by omega) (fun h => by have := (chok_ref h q (by omega)).1; omega)).symm, H.topur⟩
                        · skip
                          refine Wd.on rfl ?_
                          refine Wd.pure rfl (Step.move (by conv => lhs; whnf)) ?_
                          refine Wd.on rfl ?_
                          refine Wd.pure rfl (Step.move (by conv => lhs; whnf)) ?_
                          refine Wd.on rfl ?_
                          refine Wd.pure rfl (Step.add (a := 1) rfl rfl (by omega)) ?_
                          refine Wd.on rfl ?_
                          refine Wd.pure rfl (Step.gtr rfl rfl) ?_
                          refine Wd.pure rfl (Step.pickF rfl (by conv => lhs; whnf)) ?_
                          refine Wd.pure rfl (Step.move (by conv => lhs; whnf)) ?_
                          refine Wd.cases (j := 79) rfl (fun hc79 => ?_) (fun hc79 => ?_)
                          · skip
                            refine Wd.off rfl rfl rfl ?_
                            refine Wd.off rfl rfl rfl ?_
                            refine Wd.off rfl rfl rfl ?_
                            refine Wd.offU rfl rfl ?_
                            refine Wd.offU rfl rfl ?_
                            refine Wd.offU rfl rfl ?_
                            refine Wd.offU rfl rfl ?_
                            refine Wd.offU rfl rfl ?_
                            refine Wd.offU rfl rfl ?_
                            refine Wd.offU rfl rfl ?_
                            refine Wd.offU rfl rfl ?_
                            refine Wd.offU rfl rfl ?_
                            refine Wd.offU rfl rfl ?_
                            refine Wd.off rfl rfl rfl ?_
                            refine Wd.pure rfl (Step.pickT rfl (by conv => lhs; whnf)) ?_
                            refine Wd.nil ?_
                            refine Wc.yes rfl ?_
                            refine Wc.seq ?_
                            refine Wc.reg ?_
                            refine Wo.op (Step.move (by conv => lhs; whnf)) ?_
                            refine Wo.nil ?_
                            refine Wc.ret ⟨_, Rs.tmp (by conv => lhs; whnf) (Rs.nil), ?_⟩
                            exact ⟨congrArg (Value.int .i64) (validG_ch (by omega) (by omega) hz (i := i) (by omega) (fun h => by have := (chok_ref h q (by omega)).2.1; omega)).symm, H.topur⟩
                          · skip
                            refine Wd.on rfl ?_
                            refine Wd.pure rfl (Step.move (by conv => lhs; whnf)) ?_
                            refine Wd.on rfl ?_
                            refine Wd.pure rfl (Step.gtr (b := 1) rfl rfl) ?_
                            refine Wd.on rfl ?_
                            refine Wd.pure rfl (Step.move (by conv => lhs; whnf)) ?_
                            refine Wd.cases (j := 82) rfl (fun hc82 => ?_) (fun hc82 => ?_)
                            · skip
                              refine Wd.on rfl ?_
                              refine Wd.pure rfl (Step.faddr rfl) ?_
                              refine Wd.on rfl ?_
                              refine Wd.read rfl (Step.load rfl (H.row 0 rfl) (by rfl)) ?_
                              refine Wd.on rfl ?_
                              refine Wd.pure rfl (Step.move (by conv => lhs; whnf)) ?_
                              refine Wd.on rfl ?_
                              refine Wd.pure rfl (Step.sub (b := 2) rfl rfl (by omega)) ?_
                              refine Wd.on rfl ?_
                              refine Wd.iaddrC rfl (Rep.at hC H hPN) rfl (by omega) (by omega) ?_
                              intro A9 o9 cs9 hr9 hv9
                              refine Wd.on rfl ?_
                              refine Wd.pure rfl (Step.faddr rfl) ?_
                              refine Wd.on rfl ?_
                              refine Wd.read rfl (Step.load rfl hr9 hv9) ?_
                              refine Wd.on rfl ?_
                              refine Wd.pure rfl (Step.faddr rfl) ?_
                              refine Wd.on rfl ?_
                              refine Wd.read rfl (Step.load rfl (H.row 1 rfl) (by rfl)) ?_
                              refine Wd.on rfl ?_
                              refine Wd.pure rfl (Step.leq rfl rfl) ?_
                              refine Wd.on rfl ?_
                              refine Wd.pure rfl (Step.pickT rfl (by conv => lhs; whnf)) ?_
                              refine Wd.pure rfl (Step.pickF rfl (by conv => lhs; whnf)) ?_
                              refine Wd.nil ?_
                              refine Wc.ite rfl (fun hc94 => ?_) (fun hc94 => ?_)
                              · skip
                                refine Wc.seq ?_
                                refine Wc.reg ?_
                                refine Wo.op (Step.move (by conv => lhs; whnf)) ?_
                                refine Wo.nil ?_
                                refine Wc.ret ⟨_, Rs.tmp (by conv => lhs; whnf) (Rs.nil), ?_⟩
                                exact ⟨congrArg (Value.int .i64) (validG_ch (by omega) (by omega) hz (i := i) (by omega) (fun h => by have := (chok_ref h q (by omega)).2.2 (by omega); omega)).symm, H.topur⟩
                              · skip
                                refine Wc.skip ?_
                                refine Wc.reg ?_
                                refine Wo.op (Step.add (b := 1) rfl rfl (by omega)) ?_
                                refine Wo.op (Step.move (by conv => lhs; whnf)) ?_
                                refine Wo.nil ?_
                                refine ⟨_, ?_, q + 1, rfl, rfl, rfl, rfl, rfl, rfl, rfl, rfl, rfl, rfl, rfl, H, by omega, by intro r hr; by_cases e : r = q; subst e; exact ⟨by omega, by omega, fun _ => by omega⟩; exact hq r (by omega)⟩
                                omega
                            · skip
                              refine Wd.off rfl rfl rfl ?_
                              refine Wd.off rfl rfl rfl ?_
                              refine Wd.off rfl rfl rfl ?_
                              refine Wd.off rfl rfl rfl ?_
                              refine Wd.off rfl rfl rfl ?_
                              refine Wd.off rfl rfl rfl ?_
                              refine Wd.off rfl rfl rfl ?_
                              refine Wd.off rfl rfl rfl ?_
                              refine Wd.off rfl rfl rfl ?_
                              refine Wd.off rfl rfl rfl ?_
                              refine Wd.on rfl ?_
                              refine Wd.pure rfl (Step.pickF rfl (by conv => lhs; whnf)) ?_
                              refine Wd.pure rfl (Step.pickF rfl (by conv => lhs; whnf)) ?_
                              refine Wd.nil ?_
                              refine Wc.no rfl ?_
                              refine Wc.skip ?_
                              refine Wc.reg ?_
                              refine Wo.op (Step.add (b := 1) rfl rfl (by omega)) ?_
                              refine Wo.op (Step.move (by conv => lhs; whnf)) ?_
                              refine Wo.nil ?_
                              refine ⟨_, ?_, q + 1, rfl, rfl, rfl, rfl, rfl, rfl, rfl, rfl, rfl, rfl, rfl, H, by omega, by intro r hr; by_cases e : r = q; subst e; exact ⟨by omega, by omega, fun h => by omega⟩; exact hq r (by omega)⟩
                              omega
                      · skip
                        refine Wc.exit ?_
                        refine .inl ⟨rfl, ?_⟩
                        have e : q = 2 := by omega
                        subst e
                        exact ⟨rfl, rfl, rfl, rfl, rfl, H, hq⟩
                    · intro ρx4 sx4 hP
                      obtain ⟨e2, e1, e43, e44, e45, H, hq⟩ := hP
                      show Wc _ _ _ _ _ _ _
                      refine Wc.fix (k := 2) e2 ?_
                      refine Wc.fix (k := 1) e1 ?_
                      refine Wc.fix (k := 43) e43 ?_
                      refine Wc.fix (k := 44) e44 ?_
                      refine Wc.fix (k := 45) e45 ?_
                      refine Wc.reg ?_
                      refine Wo.op (Step.add (b := 1) rfl rfl (by omega)) ?_
                      refine Wo.op (Step.move (by conv => lhs; whnf)) ?_
                      refine Wo.nil ?_
                      refine ⟨_, ?_, i + 1, rfl, rfl, rfl, rfl, rfl, rfl, H.take 1, by omega, by intro j hj; by_cases e : j = i; subst e; exact ⟨by omega, by omega, hq 0 (by omega), hq 1 (by omega)⟩; exact hk j (by omega)⟩
                      omega
              · skip
                refine Wc.exit ?_
                refine .inl ⟨rfl, ?_⟩
                exact ⟨rfl, rfl, H, fun j hj => hk j (by omega)⟩
            · intro ρx2 sx2 hP
              obtain ⟨e1, e2, H, hk⟩ := hP
              show Wc _ _ _ _ _ _ _
              refine Wc.fix (k := 1) e1 ?_
              refine Wc.fix (k := 2) e2 ?_
              refine Wc.seq ?_
              refine Wc.seq ?_
              refine Wc.reg ?_
              refine Wo.op (Step.faddr rfl) ?_
              refine Wo.op (Step.load rfl (H.row 0 rfl) (by rfl)) ?_
              refine Wo.op (Step.lss (b := 0) rfl rfl) ?_
              refine Wo.op (Step.move (by conv => lhs; whnf)) ?_
              refine Wo.cases (j := 100) rfl (fun hc100 => ?_) (fun hc100 => ?_)
              · skip
                refine Wo.off rfl rfl ?_
                refine Wo.off rfl rfl ?_
                refine Wo.off rfl rfl ?_
                refine Wo.off rfl rfl ?_
                refine Wo.off rfl rfl ?_
                refine Wo.off rfl rfl ?_
                refine Wo.off rfl rfl ?_
                refine Wo.op (Step.pickT rfl (by conv => lhs; whnf)) ?_
                refine Wo.nil ?_
                refine Wc.yes rfl ?_
                refine Wc.seq ?_
                refine Wc.reg ?_
                refine Wo.op (Step.move (by conv => lhs; whnf)) ?_
                refine Wo.nil ?_
                refine Wc.ret ⟨_, Rs.tmp (by conv => lhs; whnf) (Rs.nil), ?_⟩
                exact ⟨congrArg (Value.int .i64) (by rw [validG_last (by omega) (by omega) hz, if_neg (fun h => by omega)]; rfl), H.topur⟩
              · skip
                refine Wo.on rfl ?_
                refine Wo.op (Step.faddr rfl) ?_
                refine Wo.on rfl ?_
                refine Wo.op (Step.load rfl (H.row 0 rfl) (by rfl)) ?_
                refine Wo.on rfl ?_
                refine Wo.op (Step.faddr rfl) ?_
                refine Wo.on rfl ?_
                refine Wo.op (Step.load rfl (H.row 0 rfl) (by rfl)) ?_
                refine Wo.on rfl ?_
                refine Wo.op (Step.lenA rfl ((Rep.at hC H hPN))) ?_
                refine Wo.on rfl ?_
                refine Wo.op (Step.add (a := 1) rfl rfl (by omega)) ?_
                refine Wo.on rfl ?_
                refine Wo.op (Step.gtr rfl rfl) ?_
                refine Wo.op (Step.pickF rfl (by conv => lhs; whnf)) ?_
                refine Wo.nil ?_
                refine Wc.ite rfl (fun hc108 => ?_) (fun hc108 => ?_)
                · skip
                  refine Wc.seq ?_
                  refine Wc.reg ?_
                  refine Wo.op (Step.move (by conv => lhs; whnf)) ?_
                  refine Wo.nil ?_
                  refine Wc.ret ⟨_, Rs.tmp (by conv => lhs; whnf) (Rs.nil), ?_⟩
                  exact ⟨congrArg (Value.int .i64) (by rw [validG_last (by omega) (by omega) hz, if_neg (fun h => by omega)]; rfl), H.topur⟩
                · skip
                  refine Wc.skip ?_
                  refine Wc.seq ?_
                  refine Wc.reg ?_
                  refine Wo.op (Step.move (by conv => lhs; whnf)) ?_
                  refine Wo.nil ?_
                  refine Wc.ret ⟨_, Rs.tmp (by conv => lhs; whnf) (Rs.nil), ?_⟩
                  exact ⟨congrArg (Value.int .i64) (by rw [validG_last (by omega) (by omega) hz, if_pos ⟨hk, by omega, by omega⟩]; rfl), H.topur⟩
theorem ref34_Validate_ok {s : St} {P : Nat → Prop} {vP vC : Value} {pats : List (List (List UInt8))} {chs : List (Int × Int × Int)} {root L : Int} (hP : Rep.str.sl.sl.ok s P [vP] pats) (hC : rCh.sl.ok s P [vC] chs) (hPN : ∀ A, P A → A < s.nextId) (hL : I64 L) (hR : I64 root) (h20 : ∀ i : Nat, i < pats.length → (getp pats (i : Nat)).length ≤ 1000) :
    Wf kprog n_ref34_Validate [.agg ⟨[vP, vC, .int .i64 root]⟩, .int .i64 L] s (fun v s' => v = .int .i64 (validG L pats chs root) ∧ Pur s s') := by
  have H := Hs.start s
  have hpl := Rep.sl_le hP
  have hcl := Rep.sl_le hC
  refine Wf.of p_ref34_Validate rfl ?_
  unfold c_ref34_Validate
  refine Wc.seq ?_
  refine Wc.reg ?_
  refine Wo.boxH H (by conv => lhs; whnf) ?_
  intro sB2 H nB2
  refine Wo.op (Step.move (by conv => lhs; whnf)) ?_
  refine Wo.nil ?_
  refine Wc.seq ?_
  refine Wc.seq ?_
  refine Wc.reg ?_
  refine Wo.op (Step.move (by conv => lhs; whnf)) ?_
  -- call ref01_MayLetters
  refine Wo.call (Wf.mono (ref01_MayLetters_ok) ?_)
  rintro _ _ ⟨rfl, rfl⟩
  refine Wo.op (Step.notD rfl) ?_
  refine Wo.nil ?_
  refine Wc.ite rfl (fun hc14 => ?_) (fun hc14 => ?_)
  · skip
    refine Wc.seq ?_
    refine Wc.reg ?_
    refine Wo.op (Step.move (by conv => lhs; whnf)) ?_
    refine Wo.nil ?_
    refine Wc.ret ⟨_, Rs.tmp (by conv => lhs; whnf) (Rs.nil), ?_⟩
    exact ⟨congrArg (Value.int .i64) (by unfold validG; rw [if_pos (by omega)]; rfl), H.topur⟩
  · skip
    refine Wc.skip ?_
    refine Wc.seq ?_
    refine Wc.seq ?_
    refine Wc.reg ?_
    refine Wo.op (Step.faddr rfl) ?_
    refine Wo.op (Step.load rfl (H.row 0 rfl) (by rfl)) ?_
    refine Wo.op (Step.lenA rfl ((Rep.at hP H hPN))) ?_
    refine Wo.op (Step.gtr (b := 300) rfl rfl) ?_
    refine Wo.op (Step.move (by conv => lhs; whnf)) ?_
    refine Wo.cases (j := 19) rfl (fun hc19 => ?_) (fun hc19 => ?_)
    · skip
      refine Wo.off rfl rfl ?_
      refine Wo.off rfl rfl ?_
      refine Wo.off rfl rfl ?_
      refine Wo.off rfl rfl ?_
      refine Wo.op (Step.pickT rfl (by conv => lhs; whnf)) ?_
      refine Wo.nil ?_
      refine Wc.yes rfl ?_
      refine Wc.seq ?_
      refine Wc.reg ?_
      refine Wo.op (Step.move (by conv => lhs; whnf)) ?_
      refine Wo.nil ?_
      refine Wc.ret ⟨_, Rs.tmp (by conv => lhs; whnf) (Rs.nil), ?_⟩
      exact ⟨congrArg (Value.int .i64) (by unfold validG; rw [if_neg (by omega), if_pos (by omega)]; rfl), H.topur⟩
    · skip
      refine Wo.on rfl ?_
      refine Wo.op (Step.faddr rfl) ?_
      refine Wo.on rfl ?_
      refine Wo.op (Step.load rfl (H.row 0 rfl) (by rfl)) ?_
      refine Wo.on rfl ?_
      refine Wo.op (Step.lenA rfl ((Rep.at hC H hPN))) ?_
      refine Wo.on rfl ?_
      refine Wo.op (Step.gtr (b := 20000) rfl rfl) ?_
      refine Wo.op (Step.pickF rfl (by conv => lhs; whnf)) ?_
      refine Wo.nil ?_
      refine Wc.ite rfl (fun hc24 => ?_) (fun hc24 => ?_)
      · skip
        refine Wc.seq ?_
        refine Wc.reg ?_
        refine Wo.op (Step.move (by conv => lhs; whnf)) ?_
        refine Wo.nil ?_
        refine Wc.ret ⟨_, Rs.tmp (by conv => lhs; whnf) (Rs.nil), ?_⟩
        exact ⟨congrArg (Value.int .i64) (by unfold validG; rw [if_neg (by omega), if_pos (by omega)]; rfl), H.topur⟩
      · skip
        refine Wc.skip ?_
        refine Wc.seq ?_
        refine Wc.seq ?_
        refine Wc.reg ?_
        refine Wo.op (Step.faddr rfl) ?_
        refine Wo.op (Step.load rfl (H.row 0 rfl) (by rfl)) ?_
        refine Wo.op (Step.lenA rfl ((Rep.at hP H hPN))) ?_
        refine Wo.op (Step.move (by conv => lhs; whnf)) ?_
        refine Wo.nil ?_
        refine Wc.mid (fun ρ' s' => (ρ' 1 = .int .i64 L) ∧ (ρ' 2 = ptrV s.nextId 0) ∧ (Hs s.nextId s s' [Item.own s.nextId 0 [vP, vC, .int .i64 root]]) ∧ (∀ j, j < pats.length → validP L (getp pats (j : Nat)) = 0)) (Wc.block (Wc.loop (fun m ρ' s' => ∃ (i : Nat), (ρ' 1 = .int .i64 L) ∧ (ρ' 2 = ptrV s.nextId 0) ∧ (ρ' 26 = vP) ∧ (ρ' 27 = .int .i64 ((pats.length : Nat) : Int)) ∧ (ρ' 28 = .int .i64 ((i : Nat) : Int)) ∧ m = pats.length - i ∧ (Hs s.nextId s s' [Item.own s.nextId 0 [vP, vC, .int .i64 root]]) ∧ (i ≤ pats.length) ∧ (∀ j, j < i → validP L (getp pats (j : Nat)) = 0)) ?_ ?_)) ?_
        · skip
          exact ⟨_, 0, rfl, rfl, rfl, rfl, rfl, rfl, H, by omega, by intro j hj; omega⟩
        · intro m0 ρ0 s0 hI
          obtain ⟨i, e1, e2, e26, e27, e28, hm0, H, hi, hz⟩ := hI
          refine Wc.fix (k := 1) e1 ?_
          refine Wc.fix (k := 2) e2 ?_
          refine Wc.fix (k := 26) e26 ?_
          refine Wc.fix (k := 27) e27 ?_
          refine Wc.fix (k := 28) e28 ?_
          refine Wc.seq ?_
          refine Wc.reg ?_
          refine Wo.op (Step.lss rfl rfl) ?_
          refine Wo.nil ?_
          refine Wc.seq ?_
          refine Wc.ite rfl (fun hc29 => ?_) (fun hc29 => ?_)
          · skip
            refine Wc.skip ?_
            refine Wc.seq ?_
            refine Wc.block ?_
            refine Wc.seq ?_
            refine Wc.reg ?_
            refine Wo.idxP0 H rfl hP hPN rfl (by omega) (by omega) ?_
            intro p30 u31 hu31
            refine Wo.allocH H ?_
            intro sB6 H nB6
            refine Wo.storeH H 1 rfl rfl (by conv => lhs; whnf) (by rfl) (Sl.one ((strs_of hu31).1.at H hPN)) (by rfl) ?_
            intro sS0 H nS0
            refine Wo.nil ?_
            refine Wc.seq ?_
            refine Wc.reg ?_
            refine Wo.op (Step.loadN rfl (H.row 1 rfl) (by rfl)) ?_
            refine Wo.op (Step.move (by conv => lhs; whnf)) ?_
            -- call ref33_Validate
            refine Wo.call (Wf.mono (ref33_Validate_ok (L := L) ((strs_of hu31).1.at H hPN) (fun A h => by have := hPN A h; have := H.le; omega) hL (Rep.sl_le hu31) (strs_of hu31).2 (h20 _ (by omega))) ?_)
            rintro _ s1 ⟨rfl, c1⟩
            have H := H.pur c1
            refine Wo.op (Step.move (by conv => lhs; whnf)) ?_
            refine Wo.nil ?_
            refine Wc.seq ?_
            refine Wc.reg ?_
            refine Wo.op (Step.move (by conv => lhs; whnf)) ?_
            refine Wo.op (Step.neq (b := 0) rfl rfl) ?_
            refine Wo.nil ?_
            refine Wc.ite rfl (fun hc36 => ?_) (fun hc36 => ?_)
            · skip
              refine Wc.seq ?_
              refine Wc.reg ?_
              refine Wo.op (Step.move (by conv => lhs; whnf)) ?_
              refine Wo.op (Step.move (by conv => lhs; whnf)) ?_
              refine Wo.nil ?_
              refine Wc.ret ⟨_, Rs.tmp (by conv => lhs; whnf) (Rs.nil), ?_⟩
              exact ⟨congrArg (Value.int .i64) (validG_pat (by omega) (by omega) (by omega) hz hc36).symm, H.topur⟩
            · skip
              refine Wc.skip ?_
              refine Wc.reg ?_
              refine Wo.op (Step.add (b := 1) rfl rfl (by omega)) ?_
              refine Wo.op (Step.move (by conv => lhs; whnf)) ?_
              refine Wo.nil ?_
              refine ⟨_, ?_, i + 1, rfl, rfl, rfl, rfl, rfl, rfl, H.take 1, by omega, by intro j hj; by_cases e : j = i; subst e; exact Classical.not_not.1 hc36; exact hz j (by omega)⟩
              omega
          · skip
            refine Wc.exit ?_
            refine .inl ⟨rfl, ?_⟩
            exact ⟨rfl, rfl, H, fun j hj => hz j (by omega)⟩
        · intro ρx0 sx0 hP
          obtain ⟨e1, e2, H, hz⟩ := hP
          show Wc _ _ _ _ _ _ _
          refine Wc.fix (k := 1) e1 ?_
          refine Wc.fix (k := 2) e2 ?_
          refine Wc.seq ?_
          refine Wc.seq ?_
          refine Wc.reg ?_
          refine Wo.op (Step.faddr rfl) ?_
          refine Wo.op (Step.load rfl (H.row 0 rfl) (by rfl)) ?_
          refine Wo.op (Step.lenA rfl ((Rep.at hC H hPN))) ?_
          refine Wo.op (Step.move (by conv => lhs; whnf)) ?_
          refine Wo.nil ?_
          refine Wc.mid (fun ρ' s' => (ρ' 1 = .int .i64 L) ∧ (ρ' 2 = ptrV s.nextId 0) ∧ (Hs s.nextId s s' [Item.own s.nextId 0 [vP, vC, .int .i64 root]]) ∧ (∀ j, j < chs.length → ChOk pats.length chs j)) (Wc.block (Wc.loop (fun m ρ' s' => ∃ (i : Nat), (ρ' 1 = .int .i64 L) ∧ (ρ' 2 = ptrV s.nextId 0) ∧ (ρ' 40 = vC) ∧ (ρ' 41 = .int .i64 ((chs.length : Nat) : Int)) ∧ (ρ' 42 = .int .i64 ((i : Nat) : Int)) ∧ m = chs.length - i ∧ (Hs s.nextId s s' [Item.own s.nextId 0 [vP, vC, .int .i64 root]]) ∧ (i ≤ chs.length) ∧ (∀ j, j < i → ChOk pats.length chs j)) ?_ ?_)) ?_
          · skip
            exact ⟨_, 0, rfl, rfl, rfl, rfl, rfl, rfl, H, by omega, by intro j hj; omega⟩
          · intro m2 ρ2 s2 hI
            obtain ⟨i, e1, e2, e40, e41, e42, hm2, H, hi, hk⟩ := hI
            refine Wc.fix (k := 1) e1 ?_
            refine Wc.fix (k := 2) e2 ?_
            refine Wc.fix (k := 40) e40 ?_
            refine Wc.fix (k := 41) e41 ?_
            refine Wc.fix (k := 42) e42 ?_
            refine Wc.seq ?_
            refine Wc.reg ?_
            refine Wo.op (Step.lss rfl rfl) ?_
            refine Wo.nil ?_
            refine Wc.seq ?_
            refine Wc.ite rfl (fun hc43 => ?_) (fun hc43 => ?_)
            · skip
              refine Wc.skip ?_
              refine Wc.seq ?_
              refine Wc.block ?_
              refine Wc.seq ?_
              refine Wc.reg ?_
              refine Wo.op (Step.move (by conv => lhs; whnf)) ?_
              refine Wo.idxC rfl (Rep.at hC H hPN) rfl (by omega) (by omega) ?_
              intro p45 hu46 hv46 hw46
              refine Wo.allocH H ?_
              intro sB9 H nB9
              refine Wo.op (Step.move (by conv => lhs; whnf)) ?_
              refine Wo.storeH H 1 rfl rfl (by conv => lhs; whnf) (by rfl) (ones_cons (by rfl) (ones_cons (by rfl) (ones_cons (by rfl) (rfl)))) (by rfl) ?_
              intro sS1 H nS1
              refine Wo.nil ?_
              refine Wc.seq ?_
              refine Wc.seq ?_
              refine Wc.reg ?_
              refine Wo.op (Step.faddr rfl) ?_
              refine Wo.op (Step.load rfl (H.row 1 rfl) (by rfl)) ?_
              refine Wo.op (Step.lss (b := 0) rfl rfl) ?_
              refine Wo.op (Step.move (by conv => lhs; whnf)) ?_
              refine Wo.cases (j := 50) rfl (fun hc50 => ?_) (fun hc50 => ?_)
              · skip
                refine Wo.off rfl rfl ?_
                refine Wo.off rfl rfl ?_
                refine Wo.off rfl rfl ?_
                refine Wo.off rfl rfl ?_
                refine Wo.off rfl rfl ?_
                refine Wo.off rfl rfl ?_
                refine Wo.op (Step.pickT rfl (by conv => lhs; whnf)) ?_
                refine Wo.nil ?_
                refine Wc.yes rfl ?_
                refine Wc.seq ?_
                refine Wc.reg ?_
                refine Wo.op (Step.move (by conv => lhs; whnf)) ?_
                refine Wo.nil ?_
                refine Wc.ret ⟨_, Rs.tmp (by conv => lhs; whnf) (Rs.nil), ?_⟩
                exact ⟨congrArg (Value.int .i64) (validG_ch (by omega) (by omega) hz (i := i) (by omega) (fun h => by have := h.1; omega)).symm, H.topur⟩
              · skip
                refine Wo.on rfl ?_
                refine Wo.op (Step.faddr rfl) ?_
                refine Wo.on rfl ?_
                refine Wo.op (Step.load rfl (H.row 1 rfl) (by rfl)) ?_
                refine Wo.on rfl ?_
                refine Wo.op (Step.faddr rfl) ?_
                refine Wo.on rfl ?_
                refine Wo.op (Step.load rfl (H.row 0 rfl) (by rfl)) ?_
                refine Wo.on rfl ?_
                refine Wo.op (Step.lenA rfl ((Rep.at hP H hPN))) ?_
                refine Wo.on rfl ?_
                refine Wo.op (Step.geq rfl rfl) ?_
                refine Wo.op (Step.pickF rfl (by conv => lhs; whnf)) ?_
                refine Wo.nil ?_
                refine Wc.ite rfl (fun hc57 => ?_) (fun hc57 => ?_)
                · skip
                  refine Wc.seq ?_
                  refine Wc.reg ?_
                  refine Wo.op (Step.move (by conv => lhs; whnf)) ?_
                  refine Wo.nil ?_
                  refine Wc.ret ⟨_, Rs.tmp (by conv => lhs; whnf) (Rs.nil), ?_⟩
                  exact ⟨congrArg (Value.int .i64) (validG_ch (by omega) (by omega) hz (i := i) (by omega) (fun h => by have := h.2.1; omega)).symm, H.topur⟩
                · skip
                  refine Wc.skip ?_
                  refine Wc.seq ?_
                  refine Wc.reg ?_
                  refine Wo.op (Step.faddr rfl) ?_
                  refine Wo.op (Step.load rfl (H.row 1 rfl) (by rfl)) ?_
                  refine Wo.op (Step.faddr rfl) ?_
                  refine Wo.op (Step.load rfl (H.row 1 rfl) (by rfl)) ?_
                  refine Wo.buildSH H (Fill.cons (by conv => lhs; whnf) (by rfl) (by rfl) (by rfl) (Fill.cons (by conv => lhs; whnf) (by rfl) (by rfl) (by rfl) (Fill.nil _))) ?_
                  intro sM62 H nM62
                  refine Wo.op (Step.lenS rfl) ?_
                  refine Wo.op (Step.move (by conv => lhs; whnf)) ?_
                  refine Wo.nil ?_
                  refine Wc.mid (fun ρ' s' => (ρ' 2 = ptrV s.nextId 0) ∧ (ρ' 1 = .int .i64 L) ∧ (ρ' 40 = vC) ∧ (ρ' 41 = .int .i64 ((chs.length : Nat) : Int)) ∧ (ρ' 42 = .int .i64 ((i : Nat) : Int)) ∧ (Hs s.nextId s s' [Item.own s.nextId 0 [vP, vC, .int .i64 root], Item.own s2.nextId 0 [.int .i64 (getc chs ((i : Nat) : Int)).1, .int .i64 (getc chs ((i : Nat) : Int)).2.1, .int .i64 (getc chs ((i : Nat) : Int)).2.2], Item.own sS1.nextId 1 (enI [(getc chs ((i : Nat) : Int)).2.1, (getc chs ((i : Nat) : Int)).2.2])]) ∧ (∀ r, r < 2 → RefOk chs i (geti [(getc chs ((i : Nat) : Int)).2.1, (getc chs ((i : Nat) : Int)).2.2] ((r : Nat) : Int)))) (Wc.block (Wc.loop (fun m ρ' s' => ∃ (q : Nat), (ρ' 2 = ptrV s.nextId 0) ∧ (ρ' 8 = .int .i64 ((i : Nat) : Int)) ∧ (ρ' 9 = ptrV s2.nextId 0) ∧ (ρ' 1 = .int .i64 L) ∧ (ρ' 40 = vC) ∧ (ρ' 41 = .int .i64 ((chs.length : Nat) : Int)) ∧ (ρ' 42 = .int .i64 ((i : Nat) : Int)) ∧ (ρ' 62 = .slice (some ⟨sS1.nextId, 0, none⟩) 2 2) ∧ (ρ' 63 = .int .i64 ((2 : Nat) : Int)) ∧ (ρ' 64 = .int .i64 ((q : Nat) : Int)) ∧ m = 2 - q ∧ (Hs s.nextId s s' [Item.own s.nextId 0 [vP, vC, .int .i64 root], Item.own s2.nextId 0 [.int .i64 (getc chs ((i : Nat) : Int)).1, .int .i64 (getc chs ((i : Nat) : Int)).2.1, .int .i64 (getc chs ((i : Nat) : Int)).2.2], Item.own sS1.nextId 1 (enI [(getc chs ((i : Nat) : Int)).2.1, (getc chs ((i : Nat) : Int)).2.2])]) ∧ (q ≤ 2) ∧ (∀ r, r < q → RefOk chs i (geti [(getc chs ((i : Nat) : Int)).2.1, (getc chs ((i : Nat) : Int)).2.2] ((r : Nat) : Int)))) ?_ ?_)) ?_
                  · skip
                    exact ⟨_, 0, rfl, rfl, rfl, rfl, rfl, rfl, rfl, rfl, rfl, rfl, rfl, H, by omega, by intro r hr; omega⟩
                  · intro m4 ρ4 s4 hI
                    obtain ⟨q, e2, e8, e9, e1, e40, e41, e42, e62, e63, e64, hm4, H, hq2, hq⟩ := hI
                    refine Wc.fix (k := 2) e2 ?_
                    refine Wc.fix (k := 8) e8 ?_
                    refine Wc.fix (k := 9) e9 ?_
                    refine Wc.fix (k := 1) e1 ?_
                    refine Wc.fix (k := 40) e40 ?_
                    refine Wc.fix (k := 41) e41 ?_
                    refine Wc.fix (k := 42) e42 ?_
                    refine Wc.fix (k := 62) e62 ?_
                    refine Wc.fix (k := 63) e63 ?_
                    refine Wc.fix (k := 64) e64 ?_
                    have hgq := geti2 hv46 hw46 q
                    simp only [I64] at hgq
                    refine Wc.seq ?_
                    refine Wc.reg ?_
                    refine Wo.op (Step.lss rfl rfl) ?_
                    refine Wo.nil ?_
                    refine Wc.seq ?_
                    refine Wc.ite rfl (fun hc65 => ?_) (fun hc65 => ?_)
                    · skip
                      refine Wc.skip ?_
                      refine Wc.seq ?_
                      refine Wc.block ?_
                      refine Wc.seq ?_
                      refine Wc.reg ?_
                      refine Wo.idxI rfl (H.orow 2 (by rfl) (by first | rfl | omega | (simp; done) | (simp; omega) | (simp; done) | (simp; omega))) rfl (by first | omega | (simp; omega)) (by first | omega | (simp; omega)) ?_
                      intro p66
                      refine Wo.op (Step.move (by conv => lhs; whnf)) ?_
                      refine Wo.nil ?_
                      refine Wc.seq ?_
                      refine Wc.draw ?_
                      refine Wd.pure rfl (Step.move (by conv => lhs; whnf)) ?_
                      refine Wd.pure rfl (Step.lss (b := 0) rfl rfl) ?_
                      refine Wd.pure rfl (Step.move (by conv => lhs; whnf)) ?_
                      refine Wd.cases (j := 70) rfl (fun hc70 => ?_) (fun hc70 => ?_)
                      · skip
                        refine Wd.off rfl rfl rfl ?_
                        refine Wd.off rfl rfl rfl ?_
                        refine Wd.off rfl rfl rfl ?_
                        refine Wd.off rfl rfl rfl ?_
                        refine Wd.pure rfl (Step.pickT rfl (by conv => lhs; whnf)) ?_
                        refine Wd.pure rfl (Step.move (by conv => lhs; whnf)) ?_
                        refine Wd.off rfl rfl rfl ?_
                        refine Wd.off rfl rfl rfl ?_
                        refine Wd.off rfl rfl rfl ?_
                        refine Wd.offU rfl rfl ?_
                        refine Wd.offU rfl rfl ?_
                        refine Wd.offU rfl rfl ?_
                        refine Wd.offU rfl rfl ?_
                        refine Wd.offU rfl rfl ?_
                        refine Wd.offU rfl rfl ?_
                        refine Wd.offU rfl rfl ?_
                        refine Wd.offU rfl rfl ?_
                        refine Wd.offU rfl rfl ?_
                        refine Wd.offU rfl rfl ?_
                        refine Wd.off rfl rfl rfl ?_
                        refine Wd.pure rfl (Step.pickT rfl (by conv => lhs; whnf)) ?_
                        refine Wd.nil ?_
                        refine Wc.yes rfl ?_
                        refine Wc.seq ?_
                        refine Wc.reg ?_
                        refine Wo.op (Step.move (by conv => lhs; whnf)) ?_
                        refine Wo.nil ?_
                        refine Wc.ret ⟨_, Rs.tmp (by conv => lhs; whnf) (Rs.nil), ?_⟩
                        exact ⟨congrArg (Value.int .i64) (validG_ch (by omega) (by omega) hz (i := i) (by omega) (fun h => by have := (chok_ref h q (by omega)).1; omega)).symm, H.topur⟩
                      · skip
                        refine Wd.on rfl ?_
                        refine Wd.pure rfl (Step.move (by conv => lhs; whnf)) ?_
                        refine Wd.on rfl ?_
                        refine Wd.pure rfl (Step.move (by conv => lhs; whnf)) ?_
                        refine Wd.on rfl ?_
                        refine Wd.pure rfl (Step.add (a := 1) rfl rfl (by omega)) ?_
                        refine Wd.on rfl ?_
                        refine Wd.pure rfl (Step.gtr rfl rfl) ?_
                        refine Wd.pure rfl (Step.pickF rfl (by conv => lhs; whnf)) ?_
                        refine Wd.pure rfl (Step.move (by conv => lhs; whnf)) ?_
                        refine Wd.cases (j := 76) rfl (fun hc76 => ?_) (fun hc76 => ?_)
                        · skip
                          refine Wd.off rfl rfl rfl ?_
                          refine Wd.off rfl rfl rfl ?_
                          refine Wd.off rfl rfl rfl ?_
                          refine Wd.offU rfl rfl ?_
                          refine Wd.offU rfl rfl ?_
                          refine Wd.offU rfl rfl ?_
                          refine Wd.offU rfl rfl ?_
                          refine Wd.offU rfl rfl ?_
                          refine Wd.offU rfl rfl ?_
                          refine Wd.offU rfl rfl ?_
                          refine Wd.offU rfl rfl ?_
                          refine Wd.offU rfl rfl ?_
                          refine Wd.offU rfl rfl ?_
                          refine Wd.off rfl rfl rfl ?_
                          refine Wd.pure rfl (Step.pickT rfl (by conv => lhs; whnf)) ?_
                          refine Wd.nil ?_
                          refine Wc.yes rfl ?_
                          refine Wc.seq ?_
                          refine Wc.reg ?_
                          refine Wo.op (Step.move (by conv => lhs; whnf)) ?_
                          refine Wo.nil ?_
                          refine Wc.ret ⟨_, Rs.tmp (by conv => lhs; whnf) (Rs.nil), ?_⟩
                          exact ⟨congrArg (Value.int .i64) (validG_ch (by omega) (by omega) hz (i := i) (by omega) (fun h => by have := (chok_ref h q (by omega)).2.1; omega)).symm, H.topur⟩
                        · skip
                          refine Wd.on rfl ?_
                          refine Wd.pure rfl (Step.move (by conv => lhs; whnf)) ?_
                          refine Wd.on rfl ?_
                          refine Wd.pure rfl (Step.geq (b := 2) rfl rfl) ?_
                          refine Wd.on rfl ?_
                          refine Wd.pure rfl (Step.move (by conv => lhs; whnf)) ?_
                          refine Wd.cases (j := 79) rfl (fun hc79 => ?_) (fun hc79 => ?_)
                          · skip
                            refine Wd.on rfl ?_
                            refine Wd.pure rfl (Step.faddr rfl) ?_
                            refine Wd.on rfl ?_
                            refine Wd.read rfl (Step.load rfl (H.row 0 rfl) (by rfl)) ?_
                            refine Wd.on rfl ?_
                            refine Wd.pure rfl (Step.move (by conv => lhs; whnf)) ?_
                            refine Wd.on rfl ?_
                            refine Wd.pure rfl (Step.sub (b := 2) rfl rfl (by omega)) ?_
                            refine Wd.on rfl ?_
                            refine Wd.iaddrC rfl (Rep.at hC H hPN) rfl (by omega) (by omega) ?_
                            intro A9 o9 cs9 hr9 hv9
                            refine Wd.on rfl ?_
                            refine Wd.pure rfl (Step.faddr rfl) ?_
                            refine Wd.on rfl ?_
                            refine Wd.read rfl (Step.load rfl hr9 hv9) ?_
                            refine Wd.on rfl ?_
                            refine Wd.pure rfl (Step.faddr rfl) ?_
                            refine Wd.on rfl ?_
                            refine Wd.read rfl (Step.load rfl (H.row 1 rfl) (by rfl)) ?_
                            refine Wd.on rfl ?_
                            refine Wd.pure rfl (Step.leq rfl rfl) ?_
                            refine Wd.on rfl ?_
                            refine Wd.pure rfl (Step.pickT rfl (by conv => lhs; whnf)) ?_
                            refine Wd.pure rfl (Step.pickF rfl (by conv => lhs; whnf)) ?_
                            refine Wd.nil ?_
                            refine Wc.ite rfl (fun hc91 => ?_) (fun hc91 => ?_)
                            · skip
                              refine Wc.seq ?_
                              refine Wc.reg ?_
                              refine Wo.op (Step.move (by conv => lhs; whnf)) ?_
                              refine Wo.nil ?_
                              refine Wc.ret ⟨_, Rs.tmp (by conv => lhs; whnf) (Rs.nil), ?_⟩
                              exact ⟨congrArg (Value.int .i64) (validG_ch (by omega) (by omega) hz (i := i) (by omega) (fun h => by have := (chok_ref h q (by omega)).2.2 (by omega); omega)).symm, H.topur⟩
                            · skip
                              refine Wc.skip ?_
                              refine Wc.reg ?_
                              refine Wo.op (Step.add (b := 1) rfl rfl (by omega)) ?_
                              refine Wo.op (Step.move (by conv => lhs; whnf)) ?_
                              refine Wo.nil ?_
                              refine ⟨_, ?_, q + 1, rfl, rfl, rfl, rfl, rfl, rfl, rfl, rfl, rfl, rfl, rfl, H, by omega, by intro r hr; by_cases e : r = q; subst e; exact ⟨by omega, by omega, fun _ => by omega⟩; exact hq r (by omega)⟩
                              omega
                          · skip
                            refine Wd.off rfl rfl rfl ?_
                            refine Wd.off rfl rfl rfl ?_
                            refine Wd.off rfl rfl rfl ?_
                            refine Wd.off rfl rfl rfl ?_
                            refine Wd.off rfl rfl rfl ?_
                            refine Wd.off rfl rfl rfl ?_
                            refine Wd.off rfl rfl rfl ?_
                            refine Wd.off rfl rfl rfl ?_
                            refine Wd.off rfl rfl rfl ?_
                            refine Wd.off rfl rfl rfl ?_
                            refine Wd.on rfl ?_
                            refine Wd.pure rfl (Step.pickF rfl (by conv => lhs; whnf)) ?_
                            refine Wd.pure rfl (Step.pickF rfl (by conv => lhs; whnf)) ?_
                            refine Wd.nil ?_
                            refine Wc.no rfl ?_
                            refine Wc.skip ?_
                            refine Wc.reg ?_
                            refine Wo.op (Step.add (b := 1) rfl rfl (by omega)) ?_
                            refine Wo.op (Step.move (by conv => lhs; whnf)) ?_
                            refine Wo.nil ?_
                            refine ⟨_, ?_, q + 1, rfl, rfl, rfl, rfl, rfl, rfl, rfl, rfl, rfl, rfl, rfl, H, by omega, by intro r hr; by_cases e : r = q; subst e; exact ⟨by omega, by omega, fun h => by omega⟩; exact hq r (by omega)⟩
                            omega
                    · skip
                      refine Wc.exit ?_
                      refine .inl ⟨rfl, ?_⟩
                      have e : q = 2 := by omega
                      subst e
                      exact ⟨rfl, rfl, rfl, rfl, rfl, H, hq⟩
                  · intro ρx4 sx4 hP
                    obtain ⟨e2, e1, e40, e41, e42, H, hq⟩ := hP
                    show Wc _ _ _ _ _ _ _
                    refine Wc.fix (k := 2) e2 ?_
                    refine Wc.fix (k := 1) e1 ?_
                    refine Wc.fix (k := 40) e40 ?_
                    refine Wc.fix (k := 41) e41 ?_
                    refine Wc.fix (k := 42) e42 ?_
                    refine Wc.reg ?_
                    refine Wo.op (Step.add (b := 1) rfl rfl (by omega)) ?_
                    refine Wo.op (Step.move (by conv => lhs; whnf)) ?_
                    refine Wo.nil ?_
                    refine ⟨_, ?_, i + 1, rfl, rfl, rfl, rfl, rfl, rfl, H.take 1, by omega, by intro j hj; by_cases e : j = i; subst e; exact ⟨by omega, by omega, hq 0 (by omega), hq 1 (by omega)⟩; exact hk j (by omega)⟩
                    omega
            · skip
              refine Wc.exit ?_
              refine .inl ⟨rfl, ?_⟩
              exact ⟨rfl, rfl, H, fun j hj => hk j (by omega)⟩
          · intro ρx2 sx2 hP
            obtain ⟨e1, e2, H, hk⟩ := hP
            show Wc _ _ _ _ _ _ _
            refine Wc.fix (k := 1) e1 ?_
            refine Wc.fix (k := 2) e2 ?_
            refine Wc.seq ?_
            refine Wc.seq ?_
            refine Wc.reg ?_
            refine Wo.op (Step.faddr rfl) ?_
            refine Wo.op (Step.load rfl (H.row 0 rfl) (by rfl)) ?_
            refine Wo.op (Step.lss (b := 0) rfl rfl) ?_
            refine Wo.op (Step.move (by conv => lhs; whnf)) ?_
            refine Wo.cases (j := 97) rfl (fun hc97 => ?_) (fun hc97 => ?_)
            · skip
              refine Wo.off rfl rfl ?_
              refine Wo.off rfl rfl ?_
              refine Wo.off rfl rfl ?_
              refine Wo.off rfl rfl ?_
              refine Wo.off rfl rfl ?_
              refine Wo.off rfl rfl ?_
              refine Wo.off rfl rfl ?_
              refine Wo.op (Step.pickT rfl (by conv => lhs; whnf)) ?_
              refine Wo.nil ?_
              refine Wc.yes rfl ?_
              refine Wc.seq ?_
              refine Wc.reg ?_
              refine Wo.op (Step.move (by conv => lhs; whnf)) ?_
              refine Wo.nil ?_
              refine Wc.ret ⟨_, Rs.tmp (by conv => lhs; whnf) (Rs.nil), ?_⟩
              exact ⟨congrArg (Value.int .i64) (by rw [validG_last (by omega) (by omega) hz, if_neg (fun h => by omega)]; rfl), H.topur⟩
            · skip
              refine Wo.on rfl ?_
              refine Wo.op (Step.faddr rfl) ?_
              refine Wo.on rfl ?_
              refine Wo.op (Step.load rfl (H.row 0 rfl) (by rfl)) ?_
              refine Wo.on rfl ?_
              refine Wo.op (Step.faddr rfl) ?_
              refine Wo.on rfl ?_
              refine Wo.op (Step.load rfl (H.row 0 rfl) (by rfl)) ?_
              refine Wo.on rfl ?_
              refine Wo.op (Step.lenA rfl ((Rep.at hC H hPN))) ?_
              refine Wo.on rfl ?_
              refine Wo.op (Step.add (a := 1) rfl rfl (by omega)) ?_
              refine Wo.on rfl ?_
              refine Wo.op (Step.gtr rfl rfl) ?_
              refine Wo.op (Step.pickF rfl (by conv => lhs; whnf)) ?_
              refine Wo.nil ?_
              refine Wc.ite rfl (fun hc105 => ?_) (fun hc105 => ?_)
              · skip
                refine Wc.seq ?_
                refine Wc.reg ?_
                refine Wo.op (Step.move (by conv => lhs; whnf)) ?_
                refine Wo.nil ?_
                refine Wc.ret ⟨_, Rs.tmp (by conv => lhs; whnf) (Rs.nil), ?_⟩
                exact ⟨congrArg (Value.int .i64) (by rw [validG_last (by omega) (by omega) hz, if_neg (fun h => by omega)]; rfl), H.topur⟩
              · skip
                refine Wc.skip ?_
                refine Wc.seq ?_
                refine Wc.reg ?_
                refine Wo.op (Step.move (by conv => lhs; whnf)) ?_
                refine Wo.nil ?_
                refine Wc.ret ⟨_, Rs.tmp (by conv => lhs; whnf) (Rs.nil), ?_⟩
                exact ⟨congrArg (Value.int .i64) (by rw [validG_last (by omega) (by omega) hz, if_pos ⟨hk, by omega, by omega⟩]; rfl), H.topur⟩
theorem ref34_Matched_ok {s : St} {P : Nat → Prop} {vP : Value} {pats : List (List (List UInt8))} {w : List UInt8} (hP : Rep.str.sl.sl.ok s P [vP] pats) (hPN : ∀ A, P A → A < s.nextId) (h20 : ∀ i : Nat, i < pats.length → (getp pats (i : Nat)).length ≤ 1000) (hpl : pats.length ≤ 300) (hw : w.length ≤ 281474976710656) :
    Wf kprog n_ref34_Matched [vP, .string ⟨⟨w⟩⟩] s (fun v s' => New s s' [Item.lst 1 v (enB (pats.map (fun p => matchP p w)))]) := by
  have H := Hs.start s
  have H := H.addNil 1
  refine Wf.of p_ref34_Matched rfl ?_
  unfold c_ref34_Matched
  refine Wc.seq ?_
  refine Wc.reg ?_
  refine Wo.op (Step.move (by conv => lhs; whnf)) ?_
  refine Wo.nil ?_
  refine Wc.seq ?_
  refine Wc.reg ?_
  refine Wo.op (Step.move (by conv => lhs; whnf)) ?_
  refine Wo.nil ?_
  refine Wc.seq ?_
  refine Wc.seq ?_
  refine Wc.reg ?_
  refine Wo.op (Step.move (by conv => lhs; whnf)) ?_
  refine Wo.op (Step.lenA rfl ((Rep.at hP H hPN))) ?_
  refine Wo.op (Step.move (by conv => lhs; whnf)) ?_
  refine Wo.nil ?_
  refine Wc.mid (fun ρ' s' => ∃ (vO : Value), (ρ' 5 = vO) ∧ (Hs s.nextId s s' [Item.lst 1 vO (enB (pats.map (fun p => matchP p w)))])) (Wc.block (Wc.loop (fun m ρ' s' => ∃ (i : Nat) (vO : Value), (ρ' 1 = .string ⟨⟨w⟩⟩) ∧ (ρ' 5 = vO) ∧ (ρ' 8 = vP) ∧ (ρ' 9 = .int .i64 ((pats.length : Nat) : Int)) ∧ (ρ' 10 = .int .i64 ((i : Nat) : Int)) ∧ m = pats.length - i ∧ (Hs s.nextId s s' [Item.lst 1 vO (enB ((pats.take i).map (fun p => matchP p w)))]) ∧ (i ≤ pats.length)) ?_ ?_)) ?_
  · skip
    exact ⟨_, 0, _, rfl, rfl, rfl, rfl, rfl, rfl, H, by omega⟩
  · intro m0 ρ0 s0 hI
    obtain ⟨i, vO, e1, e5, e8, e9, e10, hm0, H, hi⟩ := hI
    refine Wc.fix (k := 1) e1 ?_
    refine Wc.fix (k := 5) e5 ?_
    refine Wc.fix (k := 8) e8 ?_
    refine Wc.fix (k := 9) e9 ?_
    refine Wc.fix (k := 10) e10 ?_
    refine Wc.seq ?_
    refine Wc.reg ?_
    refine Wo.op (Step.lss rfl rfl) ?_
    refine Wo.nil ?_
    refine Wc.seq ?_
    refine Wc.ite rfl (fun hc11 => ?_) (fun hc11 => ?_)
    · skip
      refine Wc.skip ?_
      refine Wc.seq ?_
      refine Wc.block ?_
      refine Wc.seq ?_
      refine Wc.reg ?_
      refine Wo.idxP0 H rfl hP hPN rfl (by omega) (by omega) ?_
      intro p12 u13 hu13
      refine Wo.allocH H ?_
      intro sB7 H nB7
      refine Wo.storeH H 1 rfl rfl (by conv => lhs; whnf) (by rfl) (Sl.one ((strs_of hu13).1.at H hPN)) (by rfl) ?_
      intro sS0 H nS0
      refine Wo.nil ?_
      refine Wc.reg ?_
      refine Wo.op (Step.move (by conv => lhs; whnf)) ?_
      refine Wo.op (Step.loadN rfl (H.row 1 rfl) (by rfl)) ?_
      refine Wo.op (Step.move (by conv => lhs; whnf)) ?_
      -- call ref33_Match
      refine Wo.call (Wf.mono (ref33_Match_ok ((strs_of hu13).1.at H hPN) (fun A h => by have := hPN A h; have := H.le; omega) (h20 _ (by omega)) (strs_of hu13).2 hw) ?_)
      rintro _ s1 ⟨rfl, c1⟩
      have H := H.pur c1
      refine Wo.appB H 0 rfl (by rfl) rfl (by simp) (by first | omega | (simp only [List.length_map, List.length_take]; omega) | (simp; omega)) ?_
      intro p18 v19 sA19 H nA19
      refine Wo.op (Step.move (by conv => lhs; whnf)) ?_
      refine Wo.nil ?_
      refine Wc.reg ?_
      refine Wo.op (Step.add (b := 1) rfl rfl (by omega)) ?_
      refine Wo.op (Step.move (by conv => lhs; whnf)) ?_
      refine Wo.nil ?_
      rw [map_takeP (by omega)] at H
      refine ⟨_, ?_, i + 1, _, rfl, rfl, rfl, rfl, rfl, rfl, H.take 1, by omega⟩
      omega
    · skip
      refine Wc.exit ?_
      refine .inl ⟨rfl, ?_⟩
      have e : i = pats.length := by omega
      subst e
      rw [List.take_length] at H
      exact ⟨_, rfl, H⟩
  · intro ρx0 sx0 hP
    obtain ⟨vO, e5, H⟩ := hP
    show Wc _ _ _ _ _ _ _
    refine Wc.fix (k := 5) e5 ?_
    refine Wc.seq ?_
    refine Wc.reg ?_
    refine Wo.op (Step.move (by conv => lhs; whnf)) ?_
    refine Wo.op (Step.move (by conv => lhs; whnf)) ?_
    refine Wo.nil ?_
    refine Wc.ret ⟨_, Rs.tmp (by conv => lhs; whnf) (Rs.nil), ?_⟩
    exact H.new1 0 rfl
theorem ref34_Decide_ok {s : St} {P : Nat → Prop} {vP vC : Value} {pats : List (List (List UInt8))} {chs : List (Int × Int × Int)} {root : Int} (hP : Rep.str.sl.sl.ok s P [vP] pats) (hC : rCh.sl.ok s P [vC] chs) (hPN : ∀ A, P A → A < s.nextId) (hR : I64 root) {vM : Value} {mb : List Bool} (hM : IsBools s P vM mb) (hk : ∀ i, i < chs.length → ChOk mb.length chs i) (h0 : 0 ≤ root) (h1 : root ≤ 1 + (chs.length : Int)) :
    Wf kprog n_ref34_Decide [.agg ⟨[vP, vC, .int .i64 root]⟩, vM] s (fun v s' => ∃ b, v = .bool b ∧ Dec chs (fun p => getb mb p) root b ∧ Pur s s') := by
  have H := Hs.start s
  have hcl := Rep.sl_le hC
  refine Wf.of p_ref34_Decide rfl ?_
  unfold c_ref34_Decide
  refine Wc.seq ?_
  refine Wc.reg ?_
  refine Wo.boxH H (by conv => lhs; whnf) ?_
  intro sB2 H nB2
  refine Wo.op (Step.move (by conv => lhs; whnf)) ?_
  refine Wo.nil ?_
  refine Wc.seq ?_
  refine Wc.reg ?_
  refine Wo.op (Step.faddr rfl) ?_
  refine Wo.op (Step.load rfl (H.row 0 rfl) (by rfl)) ?_
  refine Wo.op (Step.move (by conv => lhs; whnf)) ?_
  refine Wo.nil ?_
  refine Wc.seq ?_
  refine Wc.mid (fun ρ' s' => ∃ (t : Int), (ρ' 2 = ptrV s.nextId 0) ∧ (ρ' 5 = .int .i64 t) ∧ (Hs s.nextId s s' [Item.own s.nextId 0 [vP, vC, .int .i64 root]]) ∧ (t ≤ 1) ∧ (∀ b, Dec chs (fun p => getb mb p) t b → Dec chs (fun p => getb mb p) root b)) (Wc.block (Wc.loop (fun m ρ' s' => ∃ (t : Int), (ρ' 2 = ptrV s.nextId 0) ∧ (ρ' 5 = .int .i64 t) ∧ (ρ' 1 = vM) ∧ m = t.toNat ∧ (Hs s.nextId s s' [Item.own s.nextId 0 [vP, vC, .int .i64 root]]) ∧ (0 ≤ t) ∧ (t ≤ 1 + (chs.length : Int)) ∧ (∀ b, Dec chs (fun p => getb mb p) t b → Dec chs (fun p => getb mb p) root b)) ?_ ?_)) ?_
  · skip
    exact ⟨_, _, rfl, rfl, rfl, rfl, H, h0, h1, fun b h => h⟩
  · intro m0 ρ0 s0 hI
    obtain ⟨t, e2, e5, e1, hm0, H, ht0, ht1, hD⟩ := hI
    refine Wc.fix (k := 2) e2 ?_
    refine Wc.fix (k := 5) e5 ?_
    refine Wc.fix (k := 1) e1 ?_
    refine Wc.seq ?_
    refine Wc.seq ?_
    refine Wc.reg ?_
    refine Wo.op (Step.move (by conv => lhs; whnf)) ?_
    refine Wo.op (Step.geq (b := 2) rfl rfl) ?_
    refine Wo.nil ?_
    refine Wc.ite rfl (fun hc10 => ?_) (fun hc10 => ?_)
    · skip
      refine Wc.skip ?_
      refine Wc.block ?_
      refine Wc.seq ?_
      refine Wc.reg ?_
      refine Wo.op (Step.faddr rfl) ?_
      refine Wo.op (Step.load rfl (H.row 0 rfl) (by rfl)) ?_
      refine Wo.op (Step.move (by conv => lhs; whnf)) ?_
      refine Wo.op (Step.sub (b := 2) rfl rfl (by omega)) ?_
      have hkt := chok_at hk (t := t) (by omega) (by omega)
      refine Wo.idxC rfl (Rep.at hC H hPN) rfl (by omega) (by omega) ?_
      intro p15 hu16 hv16 hw16
      refine Wo.allocH H ?_
      intro sB6 H nB6
      refine Wo.storeH H 1 rfl rfl (by conv => lhs; whnf) (by rfl) (ones_cons (by rfl) (ones_cons (by rfl) (ones_cons (by rfl) (rfl)))) (by rfl) ?_
      intro sS0 H nS0
      refine Wo.nil ?_
      refine Wc.seq ?_
      refine Wc.reg ?_
      refine Wo.op (Step.move (by conv => lhs; whnf)) ?_
      refine Wo.op (Step.faddr rfl) ?_
      refine Wo.op (Step.load rfl (H.row 1 rfl) (by rfl)) ?_
      refine Wo.idxB rfl (hM.at H hPN) rfl (by first | omega | (simp; omega)) (by first | omega | (simp; omega)) ?_
      intro p20
      refine Wo.nil ?_
      refine Wc.iteB rfl (fun hc21 => ?_) (fun hc21 => ?_)
      · skip
        refine Wc.reg ?_
        refine Wo.op (Step.faddr rfl) ?_
        refine Wo.op (Step.load rfl (H.row 1 rfl) (by rfl)) ?_
        refine Wo.op (Step.move (by conv => lhs; whnf)) ?_
        refine Wo.nil ?_
        refine ⟨_, ?_, _, rfl, rfl, rfl, rfl, H.take 1, by omega, by omega, fun b hb => hD b (.go (by omega) (by rw [if_pos hc21]; exact hb))⟩
        omega
      · skip
        refine Wc.reg ?_
        refine Wo.op (Step.faddr rfl) ?_
        refine Wo.op (Step.load rfl (H.row 1 rfl) (by rfl)) ?_
        refine Wo.op (Step.move (by conv => lhs; whnf)) ?_
        refine Wo.nil ?_
        refine ⟨_, ?_, _, rfl, rfl, rfl, rfl, H.take 1, by omega, by omega, fun b hb => hD b (.go (by omega) (by rw [if_neg (fun h => by rw [hc21] at h; cases h)]; exact hb))⟩
        omega
    · skip
      refine Wc.exit ?_
      refine .inl ⟨rfl, ?_⟩
      exact ⟨_, rfl, rfl, H, by omega, hD⟩
  · intro ρx0 sx0 hP
    obtain ⟨t, e2, e5, H, ht1, hD⟩ := hP
    show Wc _ _ _ _ _ _ _
    refine Wc.fix (k := 2) e2 ?_
    refine Wc.fix (k := 5) e5 ?_
    refine Wc.seq ?_
    refine Wc.reg ?_
    refine Wo.op (Step.move (by conv => lhs; whnf)) ?_
    refine Wo.op (Step.eql (b := 1) rfl rfl) ?_
    refine Wo.op (Step.move (by conv => lhs; whnf)) ?_
    refine Wo.nil ?_
    refine Wc.ret ⟨_, Rs.tmp (by conv => lhs; whnf) (Rs.nil), ?_⟩
    exact ⟨_, rfl, hD _ (.dec1 ht1), H.topur⟩
theorem combine_decide_ok {s : St} {P : Nat → Prop} {vP vC : Value} {pats : List (List (List UInt8))} {chs : List (Int × Int × Int)} {root : Int} (hP : Rep.str.sl.sl.ok s P [vP] pats) (hC : rCh.sl.ok s P [vC] chs) (hPN : ∀ A, P A → A < s.nextId) (hR : I64 root) {A B np : Nat} {mf : Int → Bool} (hm : ∀ s1, Pur s s1 → ∀ p : Int, 0 ≤ p → p < (np : Int) → Wf kprog n_combine_Holds_1 [.int .i64 p, ptrV A 0, ptrV B 0] s1 (fun v s' => v = .bool (mf p) ∧ Pur s1 s')) (hk : ∀ i, i < chs.length → ChOk np chs i) (h0 : 0 ≤ root) (h1 : root ≤ 1 + (chs.length : Int)) :
    Wf kprog n_combine_decide [.agg ⟨[vP, vC, .int .i64 root]⟩, .func (.func 52) ⟨[]⟩ ⟨[ptrV A 0, ptrV B 0]⟩] s (fun v s' => ∃ b, v = .bool b ∧ Dec chs mf root b ∧ Pur s s') := by
  have H := Hs.start s
  have hcl := Rep.sl_le hC
  refine Wf.of p_combine_decide rfl ?_
  unfold c_combine_decide
  refine Wc.seq ?_
  refine Wc.reg ?_
  refine Wo.boxH H (by conv => lhs; whnf) ?_
  intro sB2 H nB2
  refine Wo.op (Step.move (by conv => lhs; whnf)) ?_
  refine Wo.nil ?_
  refine Wc.seq ?_
  refine Wc.reg ?_
  refine Wo.op (Step.faddr rfl) ?_
  refine Wo.op (Step.load rfl (H.row 0 rfl) (by rfl)) ?_
  refine Wo.op (Step.move (by conv => lhs; whnf)) ?_
  refine Wo.nil ?_
  refine Wc.seq ?_
  refine Wc.mid (fun ρ' s' => ∃ (t : Int), (ρ' 2 = ptrV s.nextId 0) ∧ (ρ' 5 = .int .i64 t) ∧ (Hs s.nextId s s' [Item.own s.nextId 0 [vP, vC, .int .i64 root]]) ∧ (t ≤ 1) ∧ (∀ b, Dec chs mf t b → Dec chs mf root b)) (Wc.block (Wc.loop (fun m ρ' s' => ∃ (t : Int), (ρ' 2 = ptrV s.nextId 0) ∧ (ρ' 5 = .int .i64 t) ∧ (ρ' 1 = .func (.func 52) ⟨[]⟩ ⟨[ptrV A 0, ptrV B 0]⟩) ∧ m = t.toNat ∧ (Hs s.nextId s s' [Item.own s.nextId 0 [vP, vC, .int .i64 root]]) ∧ (0 ≤ t) ∧ (t ≤ 1 + (chs.length : Int)) ∧ (∀ b, Dec chs mf t b → Dec chs mf root b)) ?_ ?_)) ?_
  · skip
    exact ⟨_, _, rfl, rfl, rfl, rfl, H, h0, h1, fun b h => h⟩
  · intro m0 ρ0 s0 hI
    obtain ⟨t, e2, e5, e1, hm0, H, ht0, ht1, hD⟩ := hI
    refine Wc.fix (k := 2) e2 ?_
    refine Wc.fix (k := 5) e5 ?_
    refine Wc.fix (k := 1) e1 ?_
    refine Wc.seq ?_
    refine Wc.seq ?_
    refine Wc.reg ?_
    refine Wo.op (Step.move (by conv => lhs; whnf)) ?_
    refine Wo.op (Step.gtr (b := 1) rfl rfl) ?_
    refine Wo.nil ?_
    refine Wc.ite rfl (fun hc10 => ?_) (fun hc10 => ?_)
    · skip
      refine Wc.skip ?_
      refine Wc.block ?_
      refine Wc.seq ?_
      refine Wc.reg ?_
      refine Wo.op (Step.faddr rfl) ?_
      refine Wo.op (Step.load rfl (H.row 0 rfl) (by rfl)) ?_
      refine Wo.op (Step.move (by conv => lhs; whnf)) ?_
      refine Wo.op (Step.sub (b := 2) rfl rfl (by omega)) ?_
      have hkt := chok_at hk (t := t) (by omega) (by omega)
      refine Wo.idxC rfl (Rep.at hC H hPN) rfl (by omega) (by omega) ?_
      intro p15 hu16 hv16 hw16
      refine Wo.allocH H ?_
      intro sB6 H nB6
      refine Wo.storeH H 1 rfl rfl (by conv => lhs; whnf) (by rfl) (ones_cons (by rfl) (ones_cons (by rfl) (ones_cons (by rfl) (rfl)))) (by rfl) ?_
      intro sS0 H nS0
      refine Wo.nil ?_
      refine Wc.seq ?_
      refine Wc.reg ?_
      refine Wo.op (Step.faddr rfl) ?_
      refine Wo.op (Step.load rfl (H.row 1 rfl) (by rfl)) ?_
      refine Wo.op (Step.move (by conv => lhs; whnf)) ?_
      refine Wo.nil ?_
      refine Wc.seq ?_
      refine Wc.reg ?_
      refine Wo.op (Step.move (by conv => lhs; whnf)) ?_
      refine Wo.op (Step.faddr rfl) ?_
      refine Wo.op (Step.load rfl (H.row 1 rfl) (by rfl)) ?_
      -- callv
      refine Wo.callv rfl (Wf.mono (hm _ H.topur _ (by omega) (by omega)) ?_)
      rintro _ s5 ⟨rfl, c5⟩
      have H := H.pur c5
      refine Wo.nil ?_
      refine Wc.iteB rfl (fun hc22 => ?_) (fun hc22 => ?_)
      · skip
        refine Wc.reg ?_
        refine Wo.op (Step.faddr rfl) ?_
        refine Wo.op (Step.load rfl (H.row 1 rfl) (by rfl)) ?_
        refine Wo.op (Step.move (by conv => lhs; whnf)) ?_
        refine Wo.nil ?_
        refine ⟨_, ?_, _, rfl, rfl, rfl, rfl, H.take 1, by omega, by omega, fun b hb => hD b (.go (by omega) (by rw [if_pos hc22]; exact hb))⟩
        omega
      · skip
        refine Wc.skip ?_
        refine ⟨_, ?_, _, rfl, rfl, rfl, rfl, H.take 1, by omega, by omega, fun b hb => hD b (.go (by omega) (by rw [if_neg (fun h => by rw [hc22] at h; cases h)]; exact hb))⟩
        omega
    · skip
      refine Wc.exit ?_
      refine .inl ⟨rfl, ?_⟩
      exact ⟨_, rfl, rfl, H, by omega, hD⟩
  · intro ρx0 sx0 hP
    obtain ⟨t, e2, e5, H, ht1, hD⟩ := hP
    show Wc _ _ _ _ _ _ _
    refine Wc.fix (k := 2) e2 ?_
    refine Wc.fix (k := 5) e5 ?_
    refine Wc.seq ?_
    refine Wc.reg ?_
    refine Wo.op (Step.move (by conv => lhs; whnf)) ?_
    refine Wo.op (Step.eql (b := 1) rfl rfl) ?_
    refine Wo.op (Step.move (by conv => lhs; whnf)) ?_
    refine Wo.nil ?_
    refine Wc.ret ⟨_, Rs.tmp (by conv => lhs; whnf) (Rs.nil), ?_⟩
    exact ⟨_, rfl, hD _ (.dec1 ht1), H.topur⟩
theorem combine_Holds_1_ok {s s0 : St} {P : Nat → Prop} {vP vC vR : Value} {pats : List (List (List UInt8))} {w : List UInt8} {A B : Nat} {p : Int} (hP : Rep.str.sl.sl.ok s P [vP] pats) (hPN : ∀ A, P A → A < s.nextId) (hA : Row s A 0 [vP, vC, vR]) (hB : Row s B 0 [.string ⟨⟨w⟩⟩]) (h0 : 0 ≤ p) (h1 : p < (pats.length : Int)) (hw : w.length ≤ 281474976710656) :
    Wf kprog n_combine_Holds_1 [.int .i64 p, ptrV A 0, ptrV B 0] s (fun v s' => v = .bool (matchP (getp pats p) w) ∧ Pur s s') := by
  have H := Hs.start s
  refine Wf.of p_combine_Holds_1 rfl ?_
  unfold c_combine_Holds_1
  refine Wc.seq ?_
  refine Wc.reg ?_
  refine Wo.op (Step.move (by conv => lhs; whnf)) ?_
  refine Wo.nil ?_
  refine Wc.seq ?_
  refine Wc.draw ?_
  refine Wd.pure rfl (Step.faddr rfl) ?_
  refine Wd.read rfl (Step.load rfl (by first | assumption | exact Own.row (by assumption)) (by rfl)) ?_
  refine Wd.pure rfl (Step.move (by conv => lhs; whnf)) ?_
  refine Wd.idxP0 H rfl hP hPN rfl (by omega) (by omega) ?_
  intro p8 u9 hu9
  refine Wd.read rfl (Step.load rfl (by first | assumption | exact Own.row (by assumption)) (by rfl)) ?_
  -- call pattern_Match
  refine Wd.call (Wf.mono (pattern_Match_ok ((strs_of hu9).1.at H hPN) (fun A h => by have := hPN A h; have := H.le; omega) (Rep.sl_le hu9) (strs_of hu9).2 hw) ?_)
  rintro _ s1 ⟨rfl, c1⟩
  have H := H.pur c1
  refine ⟨⟨fun h => absurd h (by omega), fun h => absurd h (by omega), fun h => absurd h (by omega), trivial⟩, ?_⟩
  refine Wd.pure rfl (Step.move (by conv => lhs; whnf)) ?_
  refine Wd.nil ?_
  refine Wc.ret ⟨_, Rs.tmp (by conv => lhs; whnf) (Rs.nil), ?_⟩
  exact ⟨rfl, H.topur⟩
theorem combine_Holds_ok {s : St} {P : Nat → Prop} {vP vC : Value} {pats : List (List (List UInt8))} {chs : List (Int × Int × Int)} {root : Int} (hP : Rep.str.sl.sl.ok s P [vP] pats) (hC : rCh.sl.ok s P [vC] chs) (hPN : ∀ A, P A → A < s.nextId) (hR : I64 root) {w : List UInt8} (hw : w.length ≤ 281474976710656) :
    Wf kprog n_combine_Holds [.agg ⟨[vP, vC, .int .i64 root]⟩, .string ⟨⟨w⟩⟩] s (fun v s' => ∃ b, v = .bool b ∧ HoldsG pats chs root w b ∧ Pur s s') := by
  have H := Hs.start s
  refine Wf.of p_combine_Holds rfl ?_
  unfold c_combine_Holds
  refine Wc.seq ?_
  refine Wc.reg ?_
  refine Wo.boxH H (by conv => lhs; whnf) ?_
  intro sB2 H nB2
  refine Wo.boxH H (by conv => lhs; whnf) ?_
  intro sB3 H nB3
  refine Wo.op (Step.move (by conv => lhs; whnf)) ?_
  refine Wo.nil ?_
  refine Wc.seq ?_
  refine Wc.seq ?_
  refine Wc.reg ?_
  refine Wo.op (Step.loadN rfl (H.row 0 rfl) (by rfl)) ?_
  -- call combine_Validate
  refine Wo.call (Wf.mono (combine_Validate_ok (L := 6) (Rep.at hP H hPN) (Rep.at hC H hPN) (fun A h => by have := hPN A h; have := H.le; omega) ⟨by omega, by omega⟩ hR) ?_)
  rintro _ s1 ⟨rfl, c1⟩
  have H := H.pur c1
  refine Wo.op (Step.neq (b := 0) rfl rfl) ?_
  refine Wo.op (Step.move (by conv => lhs; whnf)) ?_
  refine Wo.cases (j := 8) rfl (fun hc8 => ?_) (fun hc8 => ?_)
  · skip
    refine Wo.off rfl rfl ?_
    refine Wo.off rfl rfl ?_
    refine Wo.off rfl rfl ?_
    refine Wo.op (Step.pickT rfl (by conv => lhs; whnf)) ?_
    refine Wo.nil ?_
    refine Wc.yes rfl ?_
    refine Wc.seq ?_
    refine Wc.reg ?_
    refine Wo.op (Step.move (by conv => lhs; whnf)) ?_
    refine Wo.nil ?_
    refine Wc.ret ⟨_, Rs.tmp (by conv => lhs; whnf) (Rs.nil), ?_⟩
    exact ⟨_, rfl, HoldsG.no (fun h => hc8 h.1), H.topur⟩
  · skip
    refine Wo.on rfl ?_
    refine Wo.op (Step.load rfl (H.row 1 rfl) (by rfl)) ?_
    refine Wo.on rfl ?_
    -- call word_Valid
    refine Wo.call (Wf.mono (word_Valid_ok (w := w) (k := 6) ⟨by omega, by omega⟩ (by omega)) ?_)
    rintro _ _ ⟨rfl, rfl⟩
    refine Wo.on rfl ?_
    refine Wo.op (Step.notD rfl) ?_
    refine Wo.op (Step.pickF rfl (by conv => lhs; whnf)) ?_
    refine Wo.nil ?_
    refine Wc.ite rfl (fun hc12 => ?_) (fun hc12 => ?_)
    · skip
      refine Wc.seq ?_
      refine Wc.reg ?_
      refine Wo.op (Step.move (by conv => lhs; whnf)) ?_
      refine Wo.nil ?_
      refine Wc.ret ⟨_, Rs.tmp (by conv => lhs; whnf) (Rs.nil), ?_⟩
      exact ⟨_, rfl, HoldsG.no (fun h => hc12 h.2), H.topur⟩
    · skip
      have hwo : WordOk w 6 := Classical.not_not.1 hc12
      have hv0 : validG 6 pats chs root = 0 := Classical.not_not.1 hc8
      obtain ⟨_, _, hp3, hc2, hk, hr0, hr1⟩ := validG_zero hv0
      refine Wc.skip ?_
      refine Wc.seq ?_
      refine Wc.reg ?_
      refine Wo.op (Step.loadN rfl (H.row 0 rfl) (by rfl)) ?_
      refine Wo.op (Step.mkFunc) ?_
      -- call combine_decide
      have HH := H
      refine Wo.call (Wf.mono (combine_decide_ok (np := pats.length) (mf := fun p => matchP (getp pats p) w) (Rep.at hP H hPN) (Rep.at hC H hPN) (fun A h => by have := hPN A h; have := H.le; omega) hR (fun s5 c5 p h0 h1 => combine_Holds_1_ok (s0 := s) (Rep.pur (Rep.at hP HH hPN) c5) (fun A h => by have := hPN A h; have := HH.le; have := c5.1; omega) ((HH.row 0 rfl).pur c5) ((HH.row 1 rfl).pur c5) h0 h1 hw) hk hr0 hr1) ?_)
      rintro _ s2 ⟨b, rfl, hD, c2⟩
      have H := H.pur c2
      refine Wo.op (Step.move (by conv => lhs; whnf)) ?_
      refine Wo.nil ?_
      refine Wc.ret ⟨_, Rs.tmp (by conv => lhs; whnf) (Rs.nil), ?_⟩
      exact ⟨_, rfl, HoldsG.yes hv0 hwo hD, H.topur⟩
theorem ref34_Holds_ok {s : St} {P : Nat → Prop} {vP vC : Value} {pats : List (List (List UInt8))} {chs : List (Int × Int × Int)} {root : Int} (hP : Rep.str.sl.sl.ok s P [vP] pats) (hC : rCh.sl.ok s P [vC] chs) (hPN : ∀ A, P A → A < s.nextId) (hR : I64 root) {w : List UInt8} (h20 : ∀ i : Nat, i < pats.length → (getp pats (i : Nat)).length ≤ 1000) (hw : w.length ≤ 281474976710656) :
    Wf kprog n_ref34_Holds [.agg ⟨[vP, vC, .int .i64 root]⟩, .string ⟨⟨w⟩⟩] s (fun v s' => ∃ b, v = .bool b ∧ HoldsG pats chs root w b ∧ Pur s s') := by
  have H := Hs.start s
  refine Wf.of p_ref34_Holds rfl ?_
  unfold c_ref34_Holds
  refine Wc.seq ?_
  refine Wc.reg ?_
  refine Wo.boxH H (by conv => lhs; whnf) ?_
  intro sB2 H nB2
  refine Wo.op (Step.move (by conv => lhs; whnf)) ?_
  refine Wo.nil ?_
  refine Wc.seq ?_
  refine Wc.draw ?_
  refine Wd.read rfl (Step.loadN rfl (H.row 0 rfl) (by rfl)) ?_
  -- call ref34_Validate
  refine Wd.call (Wf.mono (ref34_Validate_ok (L := 6) (Rep.at hP H hPN) (Rep.at hC H hPN) (fun A h => by have := hPN A h; have := H.le; omega) ⟨by omega, by omega⟩ hR h20) ?_)
  rintro _ s1 ⟨rfl, c1⟩
  have H := H.pur c1
  refine ⟨⟨fun h => absurd h (by omega), trivial⟩, ?_⟩
  refine Wd.pure rfl (Step.eql (b := 0) rfl rfl) ?_
  refine Wd.pure rfl (Step.move (by conv => lhs; whnf)) ?_
  refine Wd.cases (j := 8) rfl (fun hc8 => ?_) (fun hc8 => ?_)
  · skip
    refine Wd.on rfl ?_
    refine Wd.pure rfl (Step.move (by conv => lhs; whnf)) ?_
    refine Wd.on rfl ?_
    -- call ref01_Valid
    refine Wd.call (Wf.mono (ref01_Valid_ok (w := w) (k := 6) ⟨by omega, by omega⟩ (by omega)) ?_)
    rintro _ _ ⟨rfl, rfl⟩
    refine ⟨⟨fun h => absurd h (by omega), trivial⟩, ?_⟩
    refine Wd.pure rfl (Step.pickT rfl (by conv => lhs; whnf)) ?_
    refine Wd.pure rfl (Step.move (by conv => lhs; whnf)) ?_
    refine Wd.cases (j := 12) rfl (fun hc12 => ?_) (fun hc12 => ?_)
    · skip
      obtain ⟨_, _, hp3, hc2, hk, hr0, hr1⟩ := validG_zero hc8
      refine Wd.on rfl ?_
      refine Wd.read rfl (Step.loadN rfl (H.row 0 rfl) (by rfl)) ?_
      refine Wd.on rfl ?_
      refine Wd.pure rfl (Step.faddr rfl) ?_
      refine Wd.on rfl ?_
      refine Wd.read rfl (Step.load rfl (H.row 0 rfl) (by rfl)) ?_
      refine Wd.on rfl ?_
      refine Wd.pure rfl (Step.move (by conv => lhs; whnf)) ?_
      refine Wd.on rfl ?_
      -- call ref34_Matched
      refine Wd.call (Wf.mono (ref34_Matched_ok (Rep.at hP H hPN) (fun A h => by have := hPN A h; have := H.le; omega) h20 hp3 hw) ?_)
      rintro vM s2 hnew
      have H := H.adds hnew
      refine ⟨⟨fun h => absurd h (by omega), fun _ => ⟨_, _, Step.loadN rfl (H.row 0 rfl) (by rfl), veq_agg3 (Rep.veq1 (Rep.at hP H hPN)) (Rep.veq1 (Rep.at hC H hPN)) (veq1_int _ _)⟩, fun h => absurd h (by omega), trivial⟩, ?_⟩
      refine Wd.on rfl ?_
      -- call ref34_Decide
      refine Wd.call (Wf.mono (ref34_Decide_ok (P := fun A => A < s2.nextId) ((Rep.mono _ (Rep.at hP H hPN)) (fun A h _ => h)) ((Rep.mono _ (Rep.at hC H hPN)) (fun A h _ => h)) (fun A h => h) hR ((H.bools 1 rfl).mono (fun A h _ => h)) (by rw [List.length_map]; exact hk) hr0 hr1) ?_)
      rintro _ s3 ⟨b, rfl, hD, c3⟩
      have H := H.pur c3
      refine ⟨⟨fun h => absurd h (by omega), fun h => absurd h (by omega), fun h => absurd h (by omega), trivial⟩, ?_⟩
      refine Wd.pure rfl (Step.pickT rfl (by conv => lhs; whnf)) ?_
      refine Wd.pure rfl (Step.move (by conv => lhs; whnf)) ?_
      refine Wd.nil ?_
      refine Wc.ret ⟨_, Rs.tmp (by conv => lhs; whnf) (Rs.nil), ?_⟩
      exact ⟨_, rfl, HoldsG.yes hc8 hc12 (hD.congr (np := pats.length) (fun p h0 h1 => getb_map h0 h1) hk hr0 hr1), H.topur⟩
    · skip
      refine Wd.off rfl rfl rfl ?_
      refine Wd.off rfl rfl rfl ?_
      refine Wd.off rfl rfl rfl ?_
      refine Wd.off rfl rfl rfl ?_
      refine Wd.offE rfl rfl rfl ?_
      refine Wd.offE rfl rfl rfl ?_
      refine Wd.pure rfl (Step.pickF rfl (by conv => lhs; whnf)) ?_
      refine Wd.pure rfl (Step.move (by conv => lhs; whnf)) ?_
      refine Wd.nil ?_
      refine Wc.ret ⟨_, Rs.tmp (by conv => lhs; whnf) (Rs.nil), ?_⟩
      exact ⟨_, rfl, HoldsG.no (fun h => hc12 h.2), H.topur⟩
  · skip
    refine Wd.off rfl rfl rfl ?_
    refine Wd.offE rfl rfl rfl ?_
    refine Wd.pure rfl (Step.pickF rfl (by conv => lhs; whnf)) ?_
    refine Wd.pure rfl (Step.move (by conv => lhs; whnf)) ?_
    refine Wd.off rfl rfl rfl ?_
    refine Wd.off rfl rfl rfl ?_
    refine Wd.off rfl rfl rfl ?_
    refine Wd.off rfl rfl rfl ?_
    refine Wd.offE rfl rfl rfl ?_
    refine Wd.offE rfl rfl rfl ?_
    refine Wd.pure rfl (Step.pickF rfl (by conv => lhs; whnf)) ?_
    refine Wd.pure rfl (Step.move (by conv => lhs; whnf)) ?_
    refine Wd.nil ?_
    refine Wc.ret ⟨_, Rs.tmp (by conv => lhs; whnf) (Rs.nil), ?_⟩
    exact ⟨_, rfl, HoldsG.no (fun h => hc8 h.1), H.topur⟩
theorem law34_known_ok {s : St} : Wf kprog n_law34_known [] s (fun v s' => v = .bool true ∧ s = s') := by
  refine Wf.of p_law34_known rfl ?_
  refine Wc.reg (Wo.op (Step.move rfl) (Wo.nil ?_))
  exact ⟨_, Rs.tmp rfl Rs.nil, rfl, rfl⟩
theorem law34_CombineRaw_ok {s : St} {P : Nat → Prop} {vP vC : Value} {pats : List (List (List UInt8))} {chs : List (Int × Int × Int)} {root L : Int} {w : List UInt8} (hP : Rep.str.sl.sl.ok s P [vP] pats) (hC : rCh.sl.ok s P [vC] chs) (hPN : ∀ A, P A → A < s.nextId) (hR : I64 root) (hL : I64 L) :
    Wf kprog n_law34_CombineRaw [.agg ⟨[vP, vC, .int .i64 root]⟩, .int .i64 L, .string ⟨⟨w⟩⟩] s (fun v s' => v = .bool true) := by
  have H := Hs.start s
  have hpl := Rep.sl_le hP
  have hcl := Rep.sl_le hC
  refine Wf.of p_law34_CombineRaw rfl ?_
  unfold c_law34_CombineRaw
  refine Wc.seq ?_
  refine Wc.reg ?_
  refine Wo.boxH H (by conv => lhs; whnf) ?_
  intro sB3 H nB3
  refine Wo.op (Step.move (by conv => lhs; whnf)) ?_
  refine Wo.nil ?_
  refine Wc.seq ?_
  refine Wc.seq ?_
  refine Wc.reg ?_
  refine Wo.op (Step.faddr rfl) ?_
  refine Wo.op (Step.load rfl (H.row 0 rfl) (by rfl)) ?_
  refine Wo.op (Step.lenA rfl ((Rep.at hP H hPN))) ?_
  refine Wo.op (Step.gtr (b := 20) rfl rfl) ?_
  refine Wo.op (Step.move (by conv => lhs; whnf)) ?_
  refine Wo.cases (j := 13) rfl (fun hc13 => ?_) (fun hc13 => ?_)
  · skip
    refine Wo.off rfl rfl ?_
    refine Wo.off rfl rfl ?_
    refine Wo.off rfl rfl ?_
    refine Wo.off rfl rfl ?_
    refine Wo.op (Step.pickT rfl (by conv => lhs; whnf)) ?_
    refine Wo.op (Step.move (by conv => lhs; whnf)) ?_
    refine Wo.off rfl rfl ?_
    refine Wo.off rfl rfl ?_
    refine Wo.off rfl rfl ?_
    refine Wo.op (Step.pickT rfl (by conv => lhs; whnf)) ?_
    refine Wo.nil ?_
    refine Wc.yes rfl ?_
    refine Wc.seq ?_
    refine Wc.reg ?_
    refine Wo.op (Step.move (by conv => lhs; whnf)) ?_
    refine Wo.nil ?_
    refine Wc.ret ⟨_, Rs.tmp (by conv => lhs; whnf) (Rs.nil), ?_⟩
    exact rfl
  · skip
    refine Wo.on rfl ?_
    refine Wo.op (Step.faddr rfl) ?_
    refine Wo.on rfl ?_
    refine Wo.op (Step.load rfl (H.row 0 rfl) (by rfl)) ?_
    refine Wo.on rfl ?_
    refine Wo.op (Step.lenA rfl ((Rep.at hC H hPN))) ?_
    refine Wo.on rfl ?_
    refine Wo.op (Step.gtr (b := 40) rfl rfl) ?_
    refine Wo.op (Step.pickF rfl (by conv => lhs; whnf)) ?_
    refine Wo.op (Step.move (by conv => lhs; whnf)) ?_
    refine Wo.cases (j := 19) rfl (fun hc19 => ?_) (fun hc19 => ?_)
    · skip
      refine Wo.off rfl rfl ?_
      refine Wo.off rfl rfl ?_
      refine Wo.off rfl rfl ?_
      refine Wo.op (Step.pickT rfl (by conv => lhs; whnf)) ?_
      refine Wo.nil ?_
      refine Wc.yes rfl ?_
      refine Wc.seq ?_
      refine Wc.reg ?_
      refine Wo.op (Step.move (by conv => lhs; whnf)) ?_
      refine Wo.nil ?_
      refine Wc.ret ⟨_, Rs.tmp (by conv => lhs; whnf) (Rs.nil), ?_⟩
      exact rfl
    · skip
      refine Wo.on rfl ?_
      refine Wo.op (Step.move (by conv => lhs; whnf)) ?_
      refine Wo.on rfl ?_
      refine Wo.op (Step.lenStrG rfl) ?_
      refine Wo.on rfl ?_
      refine Wo.op (Step.gtr (b := 60) rfl rfl) ?_
      refine Wo.op (Step.pickF rfl (by conv => lhs; whnf)) ?_
      refine Wo.nil ?_
      refine Wc.ite rfl (fun hc23 => ?_) (fun hc23 => ?_)
      · skip
        refine Wc.seq ?_
        refine Wc.reg ?_
        refine Wo.op (Step.move (by conv => lhs; whnf)) ?_
        refine Wo.nil ?_
        refine Wc.ret ⟨_, Rs.tmp (by conv => lhs; whnf) (Rs.nil), ?_⟩
        exact rfl
      · skip
        refine Wc.skip ?_
        refine Wc.seq ?_
        refine Wc.seq ?_
        refine Wc.reg ?_
        refine Wo.op (Step.faddr rfl) ?_
        refine Wo.op (Step.load rfl (H.row 0 rfl) (by rfl)) ?_
        refine Wo.op (Step.lenA rfl ((Rep.at hP H hPN))) ?_
        refine Wo.op (Step.move (by conv => lhs; whnf)) ?_
        refine Wo.nil ?_
        refine Wc.mid (fun ρ' s' => (ρ' 1 = .int .i64 L) ∧ (ρ' 2 = .string ⟨⟨w⟩⟩) ∧ (ρ' 3 = ptrV s.nextId 0) ∧ (Hs s.nextId s s' [Item.own s.nextId 0 [vP, vC, .int .i64 root]]) ∧ (∀ j : Nat, j < pats.length → (getp pats (j : Nat)).length ≤ 20)) (Wc.block (Wc.loop (fun m ρ' s' => ∃ (i : Nat), (ρ' 1 = .int .i64 L) ∧ (ρ' 2 = .string ⟨⟨w⟩⟩) ∧ (ρ' 3 = ptrV s.nextId 0) ∧ (ρ' 25 = vP) ∧ (ρ' 26 = .int .i64 ((pats.length : Nat) : Int)) ∧ (ρ' 27 = .int .i64 ((i : Nat) : Int)) ∧ m = pats.length - i ∧ (Hs s.nextId s s' [Item.own s.nextId 0 [vP, vC, .int .i64 root]]) ∧ (i ≤ pats.length) ∧ (∀ j : Nat, j < i → (getp pats (j : Nat)).length ≤ 20)) ?_ ?_)) ?_
        · skip
          exact ⟨_, 0, rfl, rfl, rfl, rfl, rfl, rfl, rfl, H, by omega, by intro j hj; omega⟩
        · intro m0 ρ0 s0 hI
          obtain ⟨i, e1, e2, e3, e25, e26, e27, hm0, H, hi, hlen⟩ := hI
          refine Wc.fix (k := 1) e1 ?_
          refine Wc.fix (k := 2) e2 ?_
          refine Wc.fix (k := 3) e3 ?_
          refine Wc.fix (k := 25) e25 ?_
          refine Wc.fix (k := 26) e26 ?_
          refine Wc.fix (k := 27) e27 ?_
          refine Wc.seq ?_
          refine Wc.reg ?_
          refine Wo.op (Step.lss rfl rfl) ?_
          refine Wo.nil ?_
          refine Wc.seq ?_
          refine Wc.ite rfl (fun hc28 => ?_) (fun hc28 => ?_)
          · skip
            refine Wc.skip ?_
            refine Wc.seq ?_
            refine Wc.block ?_
            refine Wc.seq ?_
            refine Wc.reg ?_
            refine Wo.idxP0 H rfl hP hPN rfl (by omega) (by omega) ?_
            intro p29 u30 hu30
            refine Wo.allocH H ?_
            intro sB8 H nB8
            refine Wo.storeH H 1 rfl rfl (by conv => lhs; whnf) (by rfl) (Sl.one ((strs_of hu30).1.at H hPN)) (by rfl) ?_
            intro sS0 H nS0
            refine Wo.nil ?_
            refine Wc.seq ?_
            refine Wc.reg ?_
            refine Wo.op (Step.faddr rfl) ?_
            refine Wo.op (Step.load rfl (H.row 1 rfl) (by rfl)) ?_
            refine Wo.op (Step.lenSl rfl ((strs_of hu30).1.at H hPN)) ?_
            refine Wo.op (Step.gtr (b := 20) rfl rfl) ?_
            refine Wo.nil ?_
            refine Wc.ite rfl (fun hc34 => ?_) (fun hc34 => ?_)
            · skip
              refine Wc.seq ?_
              refine Wc.reg ?_
              refine Wo.op (Step.move (by conv => lhs; whnf)) ?_
              refine Wo.nil ?_
              refine Wc.ret ⟨_, Rs.tmp (by conv => lhs; whnf) (Rs.nil), ?_⟩
              exact rfl
            · skip
              refine Wc.skip ?_
              refine Wc.reg ?_
              refine Wo.op (Step.add (b := 1) rfl rfl (by omega)) ?_
              refine Wo.op (Step.move (by conv => lhs; whnf)) ?_
              refine Wo.nil ?_
              refine ⟨_, ?_, i + 1, rfl, rfl, rfl, rfl, rfl, rfl, rfl, H.take 1, by omega, by intro j hj; by_cases e : j = i; subst e; omega; exact hlen j (by omega)⟩
              omega
          · skip
            refine Wc.exit ?_
            refine .inl ⟨rfl, ?_⟩
            exact ⟨rfl, rfl, rfl, H, fun j hj => hlen j (by omega)⟩
        · intro ρx0 sx0 hP
          obtain ⟨e1, e2, e3, H, hlen⟩ := hP
          show Wc _ _ _ _ _ _ _
          refine Wc.fix (k := 1) e1 ?_
          refine Wc.fix (k := 2) e2 ?_
          refine Wc.fix (k := 3) e3 ?_
          refine Wc.seq ?_
          refine Wc.draw ?_
          refine Wd.read rfl (Step.loadN rfl (H.row 0 rfl) (by rfl)) ?_
          refine Wd.pure rfl (Step.move (by conv => lhs; whnf)) ?_
          refine Wd.read rfl (Step.loadN rfl (H.row 0 rfl) (by rfl)) ?_
          refine Wd.pure rfl (Step.move (by conv => lhs; whnf)) ?_
          -- call combine_Validate
          refine Wd.call (Wf.mono (combine_Validate_ok (Rep.at hP H hPN) (Rep.at hC H hPN) (fun A h => by have := hPN A h; have := H.le; omega) hL hR) ?_)
          rintro _ s1 ⟨rfl, c1⟩
          have H := H.pur c1
          refine ⟨⟨fun _ => ⟨_, _, Step.loadN rfl (H.row 0 rfl) (by rfl), veq_agg3 (Rep.veq1 (Rep.at hP H hPN)) (Rep.veq1 (Rep.at hC H hPN)) (veq1_int _ _)⟩, fun h => absurd h (by omega), trivial⟩, ?_⟩
          -- call ref34_Validate
          refine Wd.call (Wf.mono (ref34_Validate_ok (Rep.at hP H hPN) (Rep.at hC H hPN) (fun A h => by have := hPN A h; have := H.le; omega) hL hR (fun i hi => by have := hlen i hi; omega)) ?_)
          rintro _ s2 ⟨rfl, c2⟩
          have H := H.pur c2
          refine ⟨⟨fun h => absurd h (by omega), fun h => absurd h (by omega), trivial⟩, ?_⟩
          refine Wd.pure rfl (Step.eql rfl rfl) ?_
          refine Wd.pure rfl (Step.move (by conv => lhs; whnf)) ?_
          refine Wd.cases (j := 43) rfl (fun hc43 => ?_) (fun hc43 => ?_)
          · skip
            refine Wd.on rfl ?_
            refine Wd.read rfl (Step.loadN rfl (H.row 0 rfl) (by rfl)) ?_
            refine Wd.on rfl ?_
            refine Wd.pure rfl (Step.move (by conv => lhs; whnf)) ?_
            refine Wd.on rfl ?_
            refine Wd.read rfl (Step.loadN rfl (H.row 0 rfl) (by rfl)) ?_
            refine Wd.on rfl ?_
            refine Wd.pure rfl (Step.move (by conv => lhs; whnf)) ?_
            refine Wd.on rfl ?_
            -- call combine_Holds
            refine Wd.call (Wf.mono (combine_Holds_ok (Rep.at hP H hPN) (Rep.at hC H hPN) (fun A h => by have := hPN A h; have := H.le; omega) hR (w := w) (by omega)) ?_)
            rintro _ s3 ⟨b, rfl, hD3, c3⟩
            have H := H.pur c3
            refine ⟨⟨fun _ => ⟨_, _, Step.loadN rfl (H.row 0 rfl) (by rfl), veq_agg3 (Rep.veq1 (Rep.at hP H hPN)) (Rep.veq1 (Rep.at hC H hPN)) (veq1_int _ _)⟩, fun h => absurd h (by omega), fun h => absurd h (by omega), fun h => absurd h (by omega), trivial⟩, ?_⟩
            refine Wd.on rfl ?_
            -- call ref34_Holds
            refine Wd.call (Wf.mono (ref34_Holds_ok (Rep.at hP H hPN) (Rep.at hC H hPN) (fun A h => by have := hPN A h; have := H.le; omega) hR (w := w) (fun i hi => by have := hlen i hi; omega) (by omega)) ?_)
            rintro _ s4 ⟨b', rfl, hD4, c4⟩
            have H := H.pur c4
            obtain rfl := hD3.det hD4
            refine ⟨⟨fun h => absurd h (by omega), fun h => absurd h (by omega), fun h => absurd h (by omega), fun h => absurd h (by omega), trivial⟩, ?_⟩
            refine Wd.on rfl ?_
            refine Wd.pure rfl (Step.eqB rfl rfl) ?_
            refine Wd.pure rfl (Step.pickT rfl (by conv => lhs; whnf)) ?_
            refine Wd.pure rfl (Step.move (by conv => lhs; whnf)) ?_
            refine Wd.cases (j := 52) rfl (fun hc52 => ?_) (fun hc52 => ?_)
            · skip
              refine Wd.on rfl ?_
              -- call law34_known
              refine Wd.call (Wf.mono law34_known_ok ?_)
              rintro _ s5 ⟨rfl, rfl⟩
              refine ⟨⟨fun h => absurd h (by omega), fun h => absurd h (by omega), fun h => absurd h (by omega), fun h => absurd h (by omega), trivial⟩, ?_⟩
              refine Wd.pure rfl (Step.pickT rfl (by conv => lhs; whnf)) ?_
              refine Wd.pure rfl (Step.move (by conv => lhs; whnf)) ?_
              refine Wd.nil ?_
              refine Wc.ret ⟨_, Rs.tmp (by conv => lhs; whnf) (Rs.nil), ?_⟩
              exact rfl
            · skip
              exact absurd rfl hc52
          · skip
            exact absurd rfl hc43
end Go.EvK
end

section
set_option linter.unusedVariables false
namespace Go.EvW
open Go Go.Ev _root_.Ev
theorem Rep.sl_one {s : St} {P : Nat → Prop} {α : Type} {r : Rep α} {c : List Value} {xs : List α} (h : r.sl.ok s P c xs) : ∃ v, c = [v] ∧ r.sl.ok s P [v] xs := by
  obtain ⟨v, css, rfl, hr⟩ := h
  exact ⟨v, rfl, v, css, rfl, hr⟩
abbrev rDg : Rep (List (List (List UInt8)) × List (Int × Int × Int) × Int) := Rep.str.sl.sl.pair (rCh.sl.pair Rep.int)
end Go.EvW
namespace Go.EvK
open Go Go.Ev Go.EvW Go.Co Go.RowKit
theorem combineRaw_calls (W : World) {cs : List Value} {g : List (List (List UInt8)) × List (Int × Int × Int) × Int} (hg : rDg.inw W cs g) {L : Int} (hL : I64 L) (w : ByteArray) :
    Calls Go.Proofs.Try.prog 4 #[.agg ⟨cs⟩, .int .i64 L, .string w] W fun e W' => e = .returned (.bool true) ∧ Below W.heap.size W W' := by
  obtain ⟨β, s, c', hw, _, hv, _, hok⟩ := rDg.put (WR.start W) rfl hg
  obtain ⟨c1, c2, rfl, h1, c3, c4, rfl, h2, rfl, hR⟩ := hok
  obtain ⟨vP, rfl, hP⟩ := Rep.sl_one h1
  obtain ⟨vC, rfl, hC⟩ := Rep.sl_one h2
  obtain ⟨⟨w⟩⟩ := w
  exact calls_of mixed (kprog_ok Go.Ev.K34.known) hw (.cons _ _ _ _ (.agg _ _ hv) (.cons _ _ _ _ (.int _ _) (.cons _ _ _ _ (.string _) .nil)))
    (law34_CombineRaw_ok hP hC (fun A h => h) hR hL)
end Go.EvK
end
