/- Walks: the references, the law. -/
import Derived.Test.YtehpiiimckodmaaEw1
import Derived.Test.YtehpiiimckodmaaWl0
import Derived.Test.YtehpiiimckodmaaEv5
import Derived.Test.YtehpiiimckodmaaK37
set_option linter.unusedVariables false
set_option linter.unusedSimpArgs false
section
set_option linter.unusedVariables false
set_option maxRecDepth 100000
set_option maxHeartbeats 4000000
namespace Go.EvK
open Go Go.Ev Go.EvW Go.Co Go.Aut
theorem ref08_number_ok {s : St} {P : Nat → Prop} {vx : Value} {xs : List Int} (hx : IsInts s P vx xs) (hP : ∀ A, P A → A < s.nextId) (hn : xs.length ≤ 1000000) :
    Wf kprog n_ref08_number [vx] s (fun v s' => ∃ A, v = .slice (some ⟨A, 0, none⟩) xs.length xs.length ∧ New s s' [Item.own A 1 (enI (ordI (number xs 0)))]) := by
  have H := Hs.start s
  refine Wf.of p_ref08_number rfl ?_
  unfold c_ref08_number
  refine Wc.seq ?_; refine Wc.reg ?_; refine Wo.op (Step.move (by conv => lhs; whnf)) ?_; refine Wo.nil ?_; refine Wc.seq ?_; refine Wc.reg ?_; refine Wo.mkMapI H ?_; intro sM9 H nM9; refine Wo.op (Step.move (by conv => lhs; whnf)) ?_; refine Wo.nil ?_; refine Wc.seq ?_; refine Wc.reg ?_; refine Wo.op (Step.move (by conv => lhs; whnf)) ?_; refine Wo.op (Step.lenSl rfl (hx.at H hP)) ?_; refine Wo.mkSliceH H rfl rfl (by omega) (by omega) (zeroI _) ?_; intro sM12 H nM12; refine Wo.op (Step.move (by conv => lhs; whnf)) ?_; refine Wo.nil ?_; refine Wc.seq ?_; refine Wc.seq ?_; refine Wc.reg ?_; refine Wo.op (Step.move (by conv => lhs; whnf)) ?_; refine Wo.op (Step.lenSl rfl (hx.at H hP)) ?_; refine Wo.op (Step.move (by conv => lhs; whnf)) ?_; refine Wo.nil ?_; refine Wc.mid (fun ρ' s' => (ρ' 4 = .slice (some ⟨sM9.nextId, 0, none⟩) xs.length xs.length) ∧ (Hs s.nextId s s' [Item.numI s.nextId (dist xs 0 xs.length), Item.own sM9.nextId 1 (enI (ordI (number xs 0)))])) (Wc.block (Wc.loop (fun m ρ' s' => ∃ (i : Nat), (ρ' 0 = vx) ∧ (ρ' 3 = .map (some s.nextId)) ∧ (ρ' 4 = .slice (some ⟨sM9.nextId, 0, none⟩) xs.length xs.length) ∧ (ρ' 13 = vx) ∧ (ρ' 14 = .int .i64 ((xs.length : Nat) : Int)) ∧ (ρ' 15 = .int .i64 ((i : Nat) : Int)) ∧ m = xs.length - i ∧ (Hs s.nextId s s' [Item.numI s.nextId (dist xs 0 i), Item.own sM9.nextId 1 (enI (preI (number xs 0) xs.length i))]) ∧ (i ≤ xs.length)) ?_ ?_)) ?_
  · exact ⟨_, 0, rfl, rfl, rfl, rfl, rfl, rfl, rfl, by rw [preI_zero]; exact H, by omega⟩
  · intro m0 ρ0 s0 hI
    obtain ⟨i, e0, e3, e4, e13, e14, e15, hm0, H, hi⟩ := hI
    refine Wc.fix (k := 0) e0 ?_; refine Wc.fix (k := 3) e3 ?_; refine Wc.fix (k := 4) e4 ?_; refine Wc.fix (k := 13) e13 ?_; refine Wc.fix (k := 14) e14 ?_; refine Wc.fix (k := 15) e15 ?_; refine Wc.seq ?_; refine Wc.reg ?_; refine Wo.op (Step.lss rfl rfl) ?_; refine Wo.nil ?_; refine Wc.seq ?_; refine Wc.ite rfl (fun hc16 => ?_) (fun hc16 => ?_)
    · refine Wc.skip ?_; refine Wc.seq ?_; refine Wc.block ?_; refine Wc.seq ?_; refine Wc.reg ?_; refine Wo.op (Step.move (by conv => lhs; whnf)) ?_; refine Wo.idxI rfl (hx.at H hP) rfl (by omega) (by omega) ?_; intro p18; refine Wo.op (Step.move (by conv => lhs; whnf)) ?_; refine Wo.op (Step.move (by conv => lhs; whnf)) ?_; refine Wo.nil ?_; refine Wc.seq ?_; refine Wc.reg ?_; refine Wo.op (Step.move (by conv => lhs; whnf)) ?_; refine Wo.op (Step.move (by conv => lhs; whnf)) ?_; refine Wo.op (Step.lookupI H 0 rfl (by rfl) rfl) ?_; refine Wo.op (Step.move (by conv => lhs; whnf)) ?_; refine Wo.op (Step.extract rfl (by rfl)) ?_; refine Wo.op (Step.extract rfl (by rfl)) ?_; refine Wo.op (Step.move (by conv => lhs; whnf)) ?_; refine Wo.op (Step.move (by conv => lhs; whnf)) ?_; refine Wo.nil ?_; refine Wc.seq ?_; refine Wc.seq ?_; refine Wc.reg ?_; refine Wo.op (Step.move (by conv => lhs; whnf)) ?_; refine Wo.op (Step.notD rfl) ?_; refine Wo.nil ?_; refine Wc.ite rfl (fun hc27 => ?_) (fun hc27 => ?_)
      · refine Wc.seq ?_; refine Wc.reg ?_; refine Wo.op (Step.move (by conv => lhs; whnf)) ?_; refine Wo.op (Step.lenMapI H 0 rfl (by rfl)) ?_; refine Wo.op (Step.move (by conv => lhs; whnf)) ?_; refine Wo.nil ?_; refine Wc.reg ?_; refine Wo.op (Step.move (by conv => lhs; whnf)) ?_; refine Wo.op (Step.move (by conv => lhs; whnf)) ?_; refine Wo.op (Step.move (by conv => lhs; whnf)) ?_; refine Wo.mapNewI H 0 rfl (by rfl) rfl rfl rfl hc27 ?_; intro sN H nN; refine Wo.nil ?_; refine Wc.reg ?_; refine Wo.op (Step.move (by conv => lhs; whnf)) ?_; refine Wo.op (Step.move (by conv => lhs; whnf)) ?_; refine Wo.op (Step.move (by conv => lhs; whnf)) ?_; refine Wo.setI H 1 rfl rfl (by rfl) (by first | omega | (simp [rowF, rowP, atF, ordI, preI]; omega)) (by first | omega | (simp [rowF, rowP, atF, ordI, preI]; omega)) (by first | omega | (simp; omega) | (simp [rowF, rowP, atF, ordI, preI]; omega) | (simp [rowF, rowP, atF, ordI, preI]; done)) rfl ?_ (by simp); intro p36 sT36 H nT36; refine Wo.nil ?_; refine Wc.reg ?_; refine Wo.op (Step.add (b := 1) rfl rfl (by omega)) ?_; refine Wo.op (Step.move (by conv => lhs; whnf)) ?_; refine Wo.nil ?_
        have hd : dist xs 0 (i + 1) = dist xs 0 i ++ [geti xs ((i : Nat) : Int)] := by simp only [dist, visit]; rw [← getD_geti, if_neg hc27]
        have hnu : (number xs 0).getD i 0 = (dist xs 0 i).length := by rw [number_get (by omega), hd, ← getD_geti, idxOf_new hc27]
        rw [show ((i : Nat) : Int).toNat = i from rfl, ← hnu, preI_set (by omega), ← hd] at H
        refine ⟨_, ?_, i + 1, rfl, rfl, rfl, rfl, rfl, rfl, rfl, H, by omega⟩
        omega
      · refine Wc.skip ?_; refine Wc.reg ?_; refine Wo.op (Step.move (by conv => lhs; whnf)) ?_; refine Wo.op (Step.move (by conv => lhs; whnf)) ?_; refine Wo.op (Step.move (by conv => lhs; whnf)) ?_; refine Wo.setI H 1 rfl rfl (by rfl) (by first | omega | (simp [rowF, rowP, atF, ordI, preI]; omega)) (by first | omega | (simp [rowF, rowP, atF, ordI, preI]; omega)) (by first | omega | (simp; omega) | (simp [rowF, rowP, atF, ordI, preI]; omega) | (simp [rowF, rowP, atF, ordI, preI]; done)) rfl ?_ (by simp); intro p36 sT36 H nT36; refine Wo.nil ?_; refine Wc.reg ?_; refine Wo.op (Step.add (b := 1) rfl rfl (by omega)) ?_; refine Wo.op (Step.move (by conv => lhs; whnf)) ?_; refine Wo.nil ?_
        have hm : geti xs ((i : Nat) : Int) ∈ dist xs 0 i := Classical.byContradiction hc27
        have hd : dist xs 0 (i + 1) = dist xs 0 i := by simp only [dist, visit]; rw [← getD_geti, if_pos hm]
        have hnu : (number xs 0).getD i 0 = (dist xs 0 i).idxOf (geti xs ((i : Nat) : Int)) := by rw [number_get (by omega), hd, ← getD_geti]
        rw [if_pos hm, show ((i : Nat) : Int).toNat = i from rfl, ← hnu, preI_set (by omega), ← hd] at H
        refine ⟨_, ?_, i + 1, rfl, rfl, rfl, rfl, rfl, rfl, rfl, H, by omega⟩
        omega
    · refine Wc.exit ?_; refine .inl ⟨rfl, ?_⟩
      exact ⟨rfl, by rw [show i = xs.length by omega, preI_full (number_length xs 0)] at H; exact H⟩
  · intro ρx0 sx0 hP
    obtain ⟨e4, H⟩ := hP
    show Wc _ _ _ _ _ _ _
    refine Wc.fix (k := 4) e4 ?_; refine Wc.seq ?_; refine Wc.reg ?_; refine Wo.op (Step.move (by conv => lhs; whnf)) ?_; refine Wo.op (Step.move (by conv => lhs; whnf)) ?_; refine Wo.nil ?_; refine Wc.ret ⟨_, Rs.tmp (by conv => lhs; whnf) (Rs.nil), ?_⟩
    exact ⟨_, rfl, H.new1 1 rfl⟩
theorem ref08_both_ok {s : St} {P : Nat → Prop} {vp vq : Value} {p q : List Nat} (hp : IsInts s P vp (ordI p)) (hq : IsInts s P vq (ordI q)) (hP : ∀ A, P A → A < s.nextId) (hn : p.length ≤ 1000000) (hl : q.length = p.length) (hpn : ∀ i, i < p.length → p.getD i 0 ≤ p.length) (hqn : ∀ i, i < p.length → q.getD i 0 ≤ p.length) :
    Wf kprog n_ref08_both [vp, vq] s (fun v s' => ∃ A, v = .slice (some ⟨A, 0, none⟩) p.length p.length ∧ New s s' [Item.own A 1 (enI (ordI (number (bothI p q p.length) 0)))]) := by
  have H := Hs.start s
  have hpl := ordI_length p
  have hql := ordI_length q
  refine Wf.of p_ref08_both rfl ?_
  unfold c_ref08_both
  refine Wc.seq ?_; refine Wc.reg ?_; refine Wo.op (Step.move (by conv => lhs; whnf)) ?_; refine Wo.nil ?_; refine Wc.seq ?_; refine Wc.reg ?_; refine Wo.op (Step.move (by conv => lhs; whnf)) ?_; refine Wo.op (Step.lenSl rfl (hp.at H hP)) ?_; refine Wo.mkSliceH H rfl rfl (by omega) (by omega) (zeroI _) ?_; intro sM9 H nM9; refine Wo.op (Step.move (by conv => lhs; whnf)) ?_; refine Wo.nil ?_; refine Wc.seq ?_; refine Wc.seq ?_; refine Wc.reg ?_; refine Wo.op (Step.move (by conv => lhs; whnf)) ?_; refine Wo.op (Step.lenSl rfl (hp.at H hP)) ?_; refine Wo.op (Step.move (by conv => lhs; whnf)) ?_; refine Wo.nil ?_; refine Wc.mid (fun ρ' s' => (ρ' 5 = .slice (some ⟨s.nextId, 0, none⟩) p.length p.length) ∧ (Hs s.nextId s s' [Item.own s.nextId 1 (enI (bothI p q p.length))])) (Wc.block (Wc.loop (fun m ρ' s' => ∃ (i : Nat) (xs : List Int), (ρ' 0 = vp) ∧ (ρ' 1 = vq) ∧ (ρ' 5 = .slice (some ⟨s.nextId, 0, none⟩) p.length p.length) ∧ (ρ' 11 = .int .i64 ((p.length : Nat) : Int)) ∧ (ρ' 12 = .int .i64 ((i : Nat) : Int)) ∧ m = p.length - i ∧ (Hs s.nextId s s' [Item.own s.nextId 1 (enI xs)]) ∧ (xs.length = p.length ∧ i ≤ p.length) ∧ (∀ j, j < i → geti xs (j : Nat) = ((p.getD j 0 : Nat) : Int) * (p.length + 1) + ((q.getD j 0 : Nat) : Int))) ?_ ?_)) ?_
  · rw [hpl] at H ⊢; exact ⟨_, 0, List.replicate p.length 0, rfl, rfl, rfl, rfl, rfl, rfl, H, ⟨by simp, by omega⟩, by intro j hj; omega⟩
  · intro m0 ρ0 s0 hI
    obtain ⟨i, xs, e0, e1, e5, e11, e12, hm0, H, hi, hz⟩ := hI
    refine Wc.fix (k := 0) e0 ?_; refine Wc.fix (k := 1) e1 ?_; refine Wc.fix (k := 5) e5 ?_; refine Wc.fix (k := 11) e11 ?_; refine Wc.fix (k := 12) e12 ?_
    have hb1 := hpn i
    have hb2 := hqn i
    refine Wc.seq ?_; refine Wc.reg ?_; refine Wo.op (Step.lss rfl rfl) ?_; refine Wo.nil ?_; refine Wc.seq ?_; refine Wc.ite rfl (fun hc13 => ?_) (fun hc13 => ?_)
    · refine Wc.skip ?_; refine Wc.seq ?_; refine Wc.block ?_; refine Wc.seq ?_; refine Wc.reg ?_; refine Wo.op (Step.move (by conv => lhs; whnf)) ?_; refine Wo.op (Step.move (by conv => lhs; whnf)) ?_; refine Wo.nil ?_; refine Wc.draw ?_; refine Wd.pure rfl (Step.move (by conv => lhs; whnf)) ?_; refine Wd.pure rfl (Step.move (by conv => lhs; whnf)) ?_; refine Wd.pure rfl (Step.move (by conv => lhs; whnf)) ?_; refine Wd.pure rfl (Step.move (by conv => lhs; whnf)) ?_; refine Wd.idxI rfl (hp.at H hP) rfl (by omega) (by omega) ?_; intro p19; refine Wd.pure rfl (Step.move (by conv => lhs; whnf)) ?_; refine Wd.pure rfl (Step.lenSl rfl (hp.at H hP)) ?_; refine Wd.pure rfl (Step.add (b := 1) rfl rfl (by omega)) ?_
      rw [geti_ordI]
      have hm1 := mul_bnd (a := ((p.getD i 0 : Nat) : Int)) (b := ((ordI p).length : Nat) + 1) (A := 1000000) (B := 1000001) (by omega) (by omega)
      refine Wd.pure rfl (Step.mul rfl rfl (by omega)) ?_; refine Wd.pure rfl (Step.move (by conv => lhs; whnf)) ?_; refine Wd.pure rfl (Step.move (by conv => lhs; whnf)) ?_; refine Wd.idxI rfl (hq.at H hP) rfl (by omega) (by omega) ?_; intro p27
      rw [geti_ordI, hpl]
      rw [hpl] at hm1
      refine Wd.pure rfl (Step.add rfl rfl (by omega)) ?_; refine Wd.setI H 0 rfl rfl (by rfl) (by omega) (by omega) (by omega) rfl ?_ (by simp); intro p30 sT30 H nT30; refine ⟨⟨fun h => absurd h (by omega), fun h => absurd h (by omega), trivial⟩, ?_⟩; refine Wd.nil ?_; refine Wc.reg ?_; refine Wo.op (Step.add (b := 1) rfl rfl (by omega)) ?_; refine Wo.op (Step.move (by conv => lhs; whnf)) ?_; refine Wo.nil ?_; refine ⟨_, ?_, i + 1, _, rfl, rfl, rfl, rfl, rfl, rfl, H, ⟨by simp; omega, by omega⟩, by intro j hj; rw [show ((i : Nat) : Int).toNat = i from rfl, geti_set (by omega)]; by_cases e : i = j; rw [if_pos e, e]; rw [if_neg e]; exact hz j (by omega)⟩
      omega
    · refine Wc.exit ?_; refine .inl ⟨rfl, ?_⟩
      have hxs : xs = bothI p q p.length := by
        apply List.ext_getElem
        · rw [bothI_length]; omega
        · intro j h1 h2
          have h3 := hz j (by omega)
          have h4 := bothI_get (p := p) (q := q) (n := p.length) (i := j) (by omega)
          simp only [geti, Int.toNat_natCast] at h3
          simpa [h1, h2] using h3.trans h4.symm
      subst hxs
      exact ⟨rfl, H⟩
  · intro ρx0 sx0 hP
    obtain ⟨e5, H⟩ := hP
    show Wc _ _ _ _ _ _ _
    refine Wc.fix (k := 5) e5 ?_; refine Wc.seq ?_; refine Wc.reg ?_; refine Wo.op (Step.move (by conv => lhs; whnf)) ?_
    -- call ref08_number
    refine Wo.call (Wf.mono (ref08_number_ok (own_ints (H.own 0 rfl) (by rw [bothI_length])) (fun A h => h) (by rw [bothI_length]; omega)) ?_)
    rintro _ s3 ⟨A, rfl, hnew⟩
    rw [bothI_length]
    have H := H.adds hnew
    refine Wo.op (Step.move (by conv => lhs; whnf)) ?_; refine Wo.nil ?_; refine Wc.ret ⟨_, Rs.tmp (by conv => lhs; whnf) (Rs.nil), ?_⟩
    exact ⟨_, rfl, H.new1 1 rfl⟩
end Go.EvK
end

section
set_option linter.unusedVariables false
set_option maxRecDepth 100000
set_option maxHeartbeats 4000000
namespace Go.EvK
open Go Go.Ev Go.EvW Go.Co Go.Aut
theorem ref08_Classes_ok {s : St} {P : Nat → Prop} {k : Nat} {st : Int} {vF vN : Value} {F : List Bool} {R : List (List Int)} (hF : IsBools s P vF F) (hN : IsRows s P vN R) (hPN : ∀ A, P A → A < s.nextId) (hA : AutOk k st F R) (hn : F.length ≤ 1000000) (hk : k ≤ 26) :
    Wf kprog n_ref08_Classes [.agg ⟨[.int .i64 ((k : Nat) : Int), .int .i64 st, vF, vN]⟩] s (fun v s' => ∃ (cl : List Nat) (Z : EvW.Item), Nerode k (faOf st F R) cl ∧ (∀ s2, Z.ok s2 → IsInts s2 (fun A => A < s2.nextId) v (ordI cl)) ∧ New s s' [Z]) := by
  have H := Hs.start s
  have hRl := hA.len
  have hok := hA.ok
  have hMn : (faOf st F R).n = F.length := rfl
  have hal := accC_length F
  refine Wf.of p_ref08_Classes rfl ?_
  unfold c_ref08_Classes
  refine Wc.seq ?_; refine Wc.reg ?_; refine Wo.boxH H (by conv => lhs; whnf) ?_; intro sB1 H nB1; refine Wo.op (Step.move (by conv => lhs; whnf)) ?_; refine Wo.nil ?_; refine Wc.seq ?_; refine Wc.reg ?_; refine Wo.op (Step.faddr rfl) ?_; refine Wo.op (Step.load rfl (H.row 0 rfl) (by rfl)) ?_; refine Wo.op (Step.lenSl rfl (hF.at H hPN)) ?_; refine Wo.mkSliceH H rfl rfl (by omega) (by omega) (zeroI _) ?_; intro sM12 H nM12; refine Wo.op (Step.move (by conv => lhs; whnf)) ?_; refine Wo.nil ?_; refine Wc.seq ?_; refine Wc.seq ?_; refine Wc.reg ?_; refine Wo.op (Step.move (by conv => lhs; whnf)) ?_; refine Wo.op (Step.lenS rfl) ?_; refine Wo.op (Step.move (by conv => lhs; whnf)) ?_; refine Wo.nil ?_; refine Wc.mid (fun ρ' s' => (ρ' 1 = ptrV s.nextId 0) ∧ (ρ' 3 = .slice (some ⟨sB1.nextId, 0, none⟩) F.length F.length) ∧ (Hs s.nextId s s' [Item.own s.nextId 0 [.int .i64 ((k : Nat) : Int), .int .i64 st, vF, vN], Item.own sB1.nextId 1 (enI (ordI (accC F)))])) (Wc.block (Wc.loop (fun m ρ' s' => ∃ (i : Nat), (ρ' 1 = ptrV s.nextId 0) ∧ (ρ' 3 = .slice (some ⟨sB1.nextId, 0, none⟩) F.length F.length) ∧ (ρ' 13 = .slice (some ⟨sB1.nextId, 0, none⟩) F.length F.length) ∧ (ρ' 14 = .int .i64 ((F.length : Nat) : Int)) ∧ (ρ' 15 = .int .i64 ((i : Nat) : Int)) ∧ m = F.length - i ∧ (Hs s.nextId s s' [Item.own s.nextId 0 [.int .i64 ((k : Nat) : Int), .int .i64 st, vF, vN], Item.own sB1.nextId 1 (enI (preI (accC F) F.length i))]) ∧ (i ≤ F.length)) ?_ ?_)) ?_
  · exact ⟨_, 0, rfl, rfl, rfl, rfl, rfl, rfl, by rw [preI_zero]; exact H, by omega⟩
  · intro m0 ρ0 s0 hI
    obtain ⟨i, e1, e3, e13, e14, e15, hm0, H, hi⟩ := hI
    refine Wc.fix (k := 1) e1 ?_; refine Wc.fix (k := 3) e3 ?_; refine Wc.fix (k := 13) e13 ?_; refine Wc.fix (k := 14) e14 ?_; refine Wc.fix (k := 15) e15 ?_
    have hpl := preI_length (accC F) F.length i
    refine Wc.seq ?_; refine Wc.reg ?_; refine Wo.op (Step.lss rfl rfl) ?_; refine Wo.nil ?_; refine Wc.seq ?_; refine Wc.ite rfl (fun hc16 => ?_) (fun hc16 => ?_)
    · refine Wc.skip ?_; refine Wc.seq ?_; refine Wc.block ?_; refine Wc.seq ?_; refine Wc.reg ?_; refine Wo.op (Step.move (by conv => lhs; whnf)) ?_; refine Wo.op (Step.move (by conv => lhs; whnf)) ?_; refine Wo.nil ?_; refine Wc.seq ?_; refine Wc.reg ?_; refine Wo.op (Step.faddr rfl) ?_; refine Wo.op (Step.load rfl (H.row 0 rfl) (by rfl)) ?_; refine Wo.op (Step.move (by conv => lhs; whnf)) ?_; refine Wo.idxB rfl (hF.at H hPN) rfl (by omega) (by omega) ?_; intro p21; refine Wo.nil ?_; refine Wc.iteB rfl (fun hc22 => ?_) (fun hc22 => ?_)
      · refine Wc.reg ?_; refine Wo.op (Step.move (by conv => lhs; whnf)) ?_; refine Wo.op (Step.move (by conv => lhs; whnf)) ?_; refine Wo.setI H 1 (n := 1) rfl rfl (by rfl) (by omega) (by omega) (by omega) rfl ?_ (by simp); intro p25 sT25 H nT25; refine Wo.nil ?_; refine Wc.reg ?_; refine Wo.op (Step.add (b := 1) rfl rfl (by omega)) ?_; refine Wo.op (Step.move (by conv => lhs; whnf)) ?_; refine Wo.nil ?_
        have hg : (accC F).getD i 0 = 1 := by rw [accC_get (by omega), ← getb_getD, hc22]; rfl
        rw [show ((i : Nat) : Int).toNat = i from rfl, show (1 : Int) = (((accC F).getD i 0 : Nat) : Int) by rw [hg]; rfl, preI_set (by omega)] at H
        refine ⟨_, ?_, i + 1, rfl, rfl, rfl, rfl, rfl, rfl, H, by omega⟩
        omega
      · refine Wc.skip ?_; refine Wc.reg ?_; refine Wo.op (Step.add (b := 1) rfl rfl (by omega)) ?_; refine Wo.op (Step.move (by conv => lhs; whnf)) ?_; refine Wo.nil ?_
        have hg : (accC F).getD i 0 = 0 := by rw [accC_get (by omega), ← getb_getD, hc22]; rfl
        refine ⟨_, ?_, i + 1, rfl, rfl, rfl, rfl, rfl, rfl, by rw [preI_skip hg]; exact H, by omega⟩
        omega
    · refine Wc.exit ?_; refine .inl ⟨rfl, ?_⟩
      exact ⟨rfl, rfl, by rw [show i = F.length by omega, preI_full hal] at H; exact H⟩
  · intro ρx0 sx0 hP
    obtain ⟨e1, e3, H⟩ := hP
    show Wc _ _ _ _ _ _ _
    refine Wc.fix (k := 1) e1 ?_; refine Wc.fix (k := 3) e3 ?_
    have hol := ordI_length (accC F)
    refine Wc.seq ?_; refine Wc.reg ?_; refine Wo.op (Step.move (by conv => lhs; whnf)) ?_
    -- call ref08_number
    refine Wo.call (Wf.mono (ref08_number_ok (own_ints (H.own 1 rfl) (by rw [hol, hal])) (fun A h => h) (by rw [hol, hal]; exact hn)) ?_)
    rintro _ s3 ⟨A3, rfl, hnew⟩
    rw [hol, hal]
    have H := H.adds hnew
    have hnl : (number (ordI (accC F)) 0).length = F.length := by rw [number_length, hol, hal]
    have hnv : ∀ s2, (Item.own A3 1 (enI (ordI (number (ordI (accC F)) 0)))).ok s2 → IsInts s2 (fun A => A < s2.nextId) (.slice (some ⟨A3, 0, none⟩) F.length F.length) (ordI (number (ordI (accC F)) 0)) := fun s2 h => own_ints h (by rw [ordI_length, hnl])
    refine Wo.op (Step.move (by conv => lhs; whnf)) ?_; refine Wo.nil ?_; refine Wc.mid (fun ρ' s' => (False)) (Wc.block (Wc.loop (fun m ρ' s' => ∃ (p : List Nat) (v3 : Value) (Zp : EvW.Item), (ρ' 1 = ptrV s.nextId 0) ∧ (ρ' 3 = v3) ∧ m = F.length - (reps p F.length).length ∧ (Hs s.nextId s s' [Item.own s.nextId 0 [.int .i64 ((k : Nat) : Int), .int .i64 st, vF, vN], Zp]) ∧ (∀ s2, Zp.ok s2 → IsInts s2 (fun A => A < s2.nextId) v3 (ordI p)) ∧ (p.length = F.length) ∧ (First p) ∧ (Coarse k (faOf st F R) p)) ?_ ?_)) ?_
    · have H := (H.merge (z := Item.own A3 1 (enI (ordI (number (ordI (accC F)) 0)))) (i := 1) (j := 2) (by decide) (by rfl) (by rfl) (Chg.refl _ : Pur _ _) (fun _ h => h.elim) (H.own 2 rfl) (fun B hB => .inr (.inl hB))).take 2
      exact ⟨_, (number (ordI (accC F)) 0), _, _, rfl, rfl, rfl, H, hnv, hnl, number_first _ _, accC_coarse⟩
    · intro m2 ρ2 s2 hI
      obtain ⟨p, v3, Zp, e1, e3, hm2, H, hv3, hpl, hpf, hpc⟩ := hI
      refine Wc.fix (k := 1) e1 ?_; refine Wc.fix (k := 3) e3 ?_
      have hoi := ordI_length p
      have hple := first_le hpf hpl
      refine Wc.block ?_; refine Wc.seq ?_; refine Wc.reg ?_; refine Wo.op (Step.move (by conv => lhs; whnf)) ?_; refine Wo.op (Step.move (by conv => lhs; whnf)) ?_; refine Wo.nil ?_; refine Wc.seq ?_; refine Wc.seq ?_; refine Wc.reg ?_; refine Wo.op (Step.move (by conv => lhs; whnf)) ?_; refine Wo.nil ?_; refine Wc.mid (fun ρ' s' => ∃ (nx : List Nat) (v5 : Value) (Zn : EvW.Item), (ρ' 1 = ptrV s.nextId 0) ∧ (ρ' 3 = v3) ∧ (ρ' 5 = v5) ∧ (Hs s.nextId s s' [Item.own s.nextId 0 [.int .i64 ((k : Nat) : Int), .int .i64 st, vF, vN], Zp, Zn]) ∧ (∀ s2, Zp.ok s2 → Zn.ok s2 → IsInts s2 (fun A => A < s2.nextId) v5 (ordI nx)) ∧ (nx.length = F.length) ∧ (First nx) ∧ (IsStep k (faOf st F R) p nx)) (Wc.block (Wc.loop (fun m ρ' s' => ∃ (x : Nat) (nx : List Nat) (v5 : Value) (Zn : EvW.Item), (ρ' 1 = ptrV s.nextId 0) ∧ (ρ' 3 = v3) ∧ (ρ' 5 = v5) ∧ (ρ' 6 = .int .i64 ((x : Nat) : Int)) ∧ m = k - x ∧ (Hs s.nextId s s' [Item.own s.nextId 0 [.int .i64 ((k : Nat) : Int), .int .i64 st, vF, vN], Zp, Zn]) ∧ (x ≤ k) ∧ (∀ s2, Zp.ok s2 → Zn.ok s2 → IsInts s2 (fun A => A < s2.nextId) v5 (ordI nx)) ∧ (nx.length = F.length) ∧ (First nx) ∧ (∀ i j, i < F.length → j < F.length → (nx.getD i 0 = nx.getD j 0 ↔ p.getD i 0 = p.getD j 0 ∧ ∀ a, a < x → p.getD ((faOf st F R).d i a) 0 = p.getD ((faOf st F R).d j a) 0))) ?_ ?_)) ?_
      · exact ⟨_, 0, p, v3, Item.emp, rfl, rfl, rfl, rfl, rfl, H.addEmp, by omega, fun s2 h _ => hv3 s2 h, hpl, hpf, fun i j _ _ => ⟨fun h => ⟨h, fun a ha => by omega⟩, fun h => h.1⟩⟩
      · intro m4 ρ4 s4 hI
        obtain ⟨x, nx, v5, Zn, e1, e3, e5, e6, hm4, H, hx, hv5, hnl2, hnf, hrel⟩ := hI
        refine Wc.fix (k := 1) e1 ?_; refine Wc.fix (k := 3) e3 ?_; refine Wc.fix (k := 5) e5 ?_; refine Wc.fix (k := 6) e6 ?_; refine Wc.seq ?_; refine Wc.seq ?_; refine Wc.reg ?_; refine Wo.op (Step.move (by conv => lhs; whnf)) ?_; refine Wo.op (Step.faddr rfl) ?_; refine Wo.op (Step.load rfl (H.row 0 rfl) (by rfl)) ?_; refine Wo.op (Step.lss rfl rfl) ?_; refine Wo.nil ?_; refine Wc.ite rfl (fun hc33 => ?_) (fun hc33 => ?_)
        · refine Wc.skip ?_; refine Wc.seq ?_; refine Wc.block ?_; refine Wc.seq ?_; refine Wc.reg ?_; refine Wo.op (Step.move (by conv => lhs; whnf)) ?_; refine Wo.nil ?_; refine Wc.seq ?_; refine Wc.seq ?_; refine Wc.reg ?_; refine Wo.op (Step.move (by conv => lhs; whnf)) ?_; refine Wo.op (Step.lenSl rfl (hv3 _ (H.ok 1 _ rfl))) ?_; refine Wo.op (Step.move (by conv => lhs; whnf)) ?_; refine Wo.nil ?_; refine Wc.mid (fun ρ' s' => ∃ (vT : Value), (ρ' 1 = ptrV s.nextId 0) ∧ (ρ' 3 = v3) ∧ (ρ' 5 = v5) ∧ (ρ' 6 = .int .i64 ((x : Nat) : Int)) ∧ (ρ' 7 = vT) ∧ (Hs s.nextId s s' [Item.own s.nextId 0 [.int .i64 ((k : Nat) : Int), .int .i64 st, vF, vN], Zp, Zn, Item.lst 1 vT (enI (ordI ((List.range F.length).map fun j => p.getD ((faOf st F R).d j x) 0)))])) (Wc.block (Wc.loop (fun m ρ' s' => ∃ (i : Nat) (vT : Value), (ρ' 1 = ptrV s.nextId 0) ∧ (ρ' 3 = v3) ∧ (ρ' 5 = v5) ∧ (ρ' 6 = .int .i64 ((x : Nat) : Int)) ∧ (ρ' 7 = vT) ∧ (ρ' 36 = v3) ∧ (ρ' 37 = .int .i64 (((ordI p).length : Nat) : Int)) ∧ (ρ' 38 = .int .i64 ((i : Nat) : Int)) ∧ m = F.length - i ∧ (Hs s.nextId s s' [Item.own s.nextId 0 [.int .i64 ((k : Nat) : Int), .int .i64 st, vF, vN], Zp, Zn, Item.lst 1 vT (enI (ordI ((List.range i).map fun j => p.getD ((faOf st F R).d j x) 0)))]) ∧ (i ≤ F.length)) ?_ ?_)) ?_
          · have H := H.addNil 1
            exact ⟨_, 0, _, rfl, rfl, rfl, rfl, rfl, rfl, rfl, rfl, rfl, H, by omega⟩
          · intro m6 ρ6 s6 hI
            obtain ⟨i, vT, e1, e3, e5, e6, e7, e36, e37, e38, hm6, H, hi⟩ := hI
            refine Wc.fix (k := 1) e1 ?_; refine Wc.fix (k := 3) e3 ?_; refine Wc.fix (k := 5) e5 ?_; refine Wc.fix (k := 6) e6 ?_; refine Wc.fix (k := 7) e7 ?_; refine Wc.fix (k := 36) e36 ?_; refine Wc.fix (k := 37) e37 ?_; refine Wc.fix (k := 38) e38 ?_
            have hoi := ordI_length p
            have hol2 := ordI_length ((List.range i).map fun j => p.getD ((faOf st F R).d j x) 0)
            have hor := List.length_range (n := i)
            rw [List.length_map] at hol2
            refine Wc.seq ?_; refine Wc.reg ?_; refine Wo.op (Step.lss rfl rfl) ?_; refine Wo.nil ?_; refine Wc.seq ?_; refine Wc.ite rfl (fun hc39 => ?_) (fun hc39 => ?_)
            · refine Wc.skip ?_; refine Wc.seq ?_; refine Wc.block ?_; refine Wc.seq ?_; refine Wc.reg ?_; refine Wo.op (Step.move (by conv => lhs; whnf)) ?_; refine Wo.op (Step.move (by conv => lhs; whnf)) ?_; refine Wo.nil ?_; refine Wc.reg ?_; refine Wo.op (Step.move (by conv => lhs; whnf)) ?_; refine Wo.op (Step.move (by conv => lhs; whnf)) ?_; refine Wo.op (Step.faddr rfl) ?_; refine Wo.op (Step.load rfl (H.row 0 rfl) (by rfl)) ?_; refine Wo.op (Step.move (by conv => lhs; whnf)) ?_; refine Wo.idxR0 H rfl (hN) hPN rfl (by omega) (by omega) ?_; intro p46 u47 hu47; refine Wo.op (Step.move (by conv => lhs; whnf)) ?_
              have hrw := (hA.row _ (getr_mem (R := R) (q := ((i : Nat) : Int)) (by omega) (by omega))).1
              refine Wo.idxI rfl (hu47.at H hPN) rfl (by omega) (by omega) ?_; intro p49
              have hq := (hA.get (q := i) (a := x) (by omega) (by omega)).2
              rw [hq]
              have hql : (faOf st F R).d i x < F.length := hok.2 i x (by rw [hMn]; omega) (by omega)
              refine Wo.idxI rfl (hv3 _ (H.ok 1 _ rfl)) rfl (by omega) (by omega) ?_; intro p51
              rw [geti_ordI]
              refine Wo.appI H 3 rfl (by rfl) rfl (by simp) (by omega) ?_; intro p53 v54 sA54 H nA54; refine Wo.op (Step.move (by conv => lhs; whnf)) ?_; refine Wo.nil ?_; refine Wc.reg ?_; refine Wo.op (Step.add (b := 1) rfl rfl (by omega)) ?_; refine Wo.op (Step.move (by conv => lhs; whnf)) ?_; refine Wo.nil ?_
              have e : ordI ((List.range i).map fun j => p.getD ((faOf st F R).d j x) 0) ++ [((p.getD ((faOf st F R).d i x) 0 : Nat) : Int)] = ordI ((List.range (i + 1)).map fun j => p.getD ((faOf st F R).d j x) 0) := by rw [List.range_succ, List.map_append, ← ordI_snoc]; rfl
              rw [e] at H
              refine ⟨_, ?_, i + 1, _, rfl, rfl, rfl, rfl, rfl, rfl, rfl, rfl, rfl, H.take 4, by omega⟩
              omega
            · refine Wc.exit ?_; refine .inl ⟨rfl, ?_⟩
              exact ⟨_, rfl, rfl, rfl, rfl, rfl, by rw [show i = F.length by omega] at H; exact H⟩
          · intro ρx6 sx6 hP
            obtain ⟨vT, e1, e3, e5, e6, e7, H⟩ := hP
            show Wc _ _ _ _ _ _ _
            refine Wc.fix (k := 1) e1 ?_; refine Wc.fix (k := 3) e3 ?_; refine Wc.fix (k := 5) e5 ?_; refine Wc.fix (k := 6) e6 ?_; refine Wc.fix (k := 7) e7 ?_; refine Wc.reg ?_; refine Wo.op (Step.move (by conv => lhs; whnf)) ?_; refine Wo.op (Step.move (by conv => lhs; whnf)) ?_
            -- call ref08_both
            have htl : ((List.range F.length).map fun j => p.getD ((faOf st F R).d j x) 0).length = F.length := by simp
            have hnle := first_le hnf hnl2
            have htle : ∀ i, i < nx.length → ((List.range F.length).map fun j => p.getD ((faOf st F R).d j x) 0).getD i 0 ≤ nx.length := fun i hi => by
              have hi' : i < F.length := by omega
              have := hok.2 i x (by rw [hMn]; omega) (by omega)
              have h2 := hple _ (show (faOf st F R).d i x < F.length from this)
              simp [hi']; simp at h2; omega
            refine Wo.call (Wf.mono (ref08_both_ok (hv5 _ (H.ok 1 _ rfl) (H.ok 2 _ rfl)) ((H.ints 3 rfl).mono (fun A h _ => h)) (fun A h => h) (by omega) (by omega) (fun i hi => by have := hnle i (by omega); omega) htle) ?_)
            rintro _ s7 ⟨A7, rfl, hnew7⟩
            have H := H.adds hnew7
            obtain ⟨hb1, hb2, hb3⟩ := both_number (p := nx) (q := ((List.range F.length).map fun j => p.getD ((faOf st F R).d j x) 0)) (n := nx.length) htle
            refine Wo.op (Step.move (by conv => lhs; whnf)) ?_; refine Wo.nil ?_; refine Wc.reg ?_; refine Wo.op (Step.move (by conv => lhs; whnf)) ?_; refine Wo.op (Step.add (b := 1) rfl rfl (by omega)) ?_; refine Wo.op (Step.move (by conv => lhs; whnf)) ?_; refine Wo.nil ?_
            have H := (H.merge (z := Item.own A7 1 (enI (ordI (number (bothI nx ((List.range F.length).map fun j => p.getD ((faOf st F R).d j x) 0) nx.length) 0)))) (i := 2) (j := 4) (by decide) (by rfl) (by rfl) (Chg.refl _ : Pur _ _) (fun _ h => h.elim) (H.own 4 rfl) (fun B hB => .inr (.inl hB))).take 3
            refine ⟨_, ?_, x + 1, number (bothI nx ((List.range F.length).map fun j => p.getD ((faOf st F R).d j x) 0) nx.length) 0, _, _, rfl, rfl, rfl, rfl, rfl, H, by omega, fun s2 _ h => own_ints h (by rw [ordI_length, hb1]), by rw [hb1, hnl2], hb2, fun i j hi hj => ?_⟩
            · omega
            · rw [hb3 i j (by omega) (by omega), hrel i j hi hj]
              have e : ∀ i, i < F.length → ((List.range F.length).map fun j => p.getD ((faOf st F R).d j x) 0).getD i 0 = p.getD ((faOf st F R).d i x) 0 := fun i h => by simp [h]
              rw [e i hi, e j hj]
              constructor
              · rintro ⟨⟨h1, h2⟩, h3⟩
                refine ⟨h1, fun a ha => ?_⟩
                by_cases ea : a = x
                · subst ea; exact h3
                · exact h2 a (by omega)
              · rintro ⟨h1, h2⟩
                exact ⟨⟨h1, fun a ha => h2 a (by omega)⟩, h2 x (by omega)⟩
        · refine Wc.exit ?_; refine .inl ⟨rfl, ?_⟩
          have hxk : x = k := by omega
          subst hxk
          exact ⟨_, _, _, rfl, rfl, rfl, H, hv5, hnl2, hnf, ⟨hnl2, hnf, hrel⟩⟩
      · intro ρx4 sx4 hP
        obtain ⟨nx, v5, Zn, e1, e3, e5, H, hv5, hnl2, hnf, hstep⟩ := hP
        show Wc _ _ _ _ _ _ _
        refine Wc.fix (k := 1) e1 ?_; refine Wc.fix (k := 3) e3 ?_; refine Wc.fix (k := 5) e5 ?_
        have hoi := ordI_length p
        have hoi2 := ordI_length nx
        refine Wc.seq ?_; refine Wc.seq ?_; refine Wc.reg ?_; refine Wo.op (Step.move (by conv => lhs; whnf)) ?_; refine Wo.op (Step.move (by conv => lhs; whnf)) ?_
        -- call ref03_Same
        refine Wo.call (Wf.mono (ref03_Same_ok (hv5 _ (H.ok 1 _ rfl) (H.ok 2 _ rfl)) (hv3 _ (H.ok 1 _ rfl)) (by omega) (by omega)) ?_)
        rintro _ s8 ⟨rfl, c8⟩
        subst c8
        refine Wo.nil ?_; refine Wc.ite rfl (fun hc61 => ?_) (fun hc61 => ?_)
        · refine Wc.seq ?_; refine Wc.reg ?_; refine Wo.op (Step.move (by conv => lhs; whnf)) ?_; refine Wo.op (Step.move (by conv => lhs; whnf)) ?_; refine Wo.nil ?_; refine Wc.ret ⟨_, Rs.tmp (by conv => lhs; whnf) (Rs.nil), ?_⟩
          have hnx : nx = p := ordI_inj hc61
          subst hnx
          exact ⟨nx, Zp, hpc.nerode hok hstep, hv3, H.new1 1 rfl⟩
        · refine Wc.skip ?_; refine Wc.reg ?_; refine Wo.op (Step.move (by conv => lhs; whnf)) ?_; refine Wo.op (Step.move (by conv => lhs; whnf)) ?_; refine Wo.nil ?_
          have H := H.both (i := 1) (j := 2) (by decide) rfl rfl
          refine ⟨_, ?_, nx, v5, Item.and Zp Zn, rfl, rfl, rfl, H.take 2, fun s2 h => hv5 s2 h.1 h.2, hnl2, hnf, hpc.step hok hstep⟩
          have h1 := reps_le nx F.length
          rcases step_stop (hpl.trans hMn.symm) hpf hstep with hh | hh
          · rw [hMn] at hh; omega
          · exact absurd (by rw [hh]) hc61
    · intro ρx2 sx2 hP
      exact hP.elim
end Go.EvK
end

section
set_option linter.unusedVariables false
set_option maxRecDepth 100000
set_option maxHeartbeats 4000000
namespace Go.EvK
open Go Go.Ev Go.EvW Go.Co Go.Aut
theorem ref07_Access_ok {s : St} {P : Nat → Prop} {k : Nat} {st : Int} {vF vN : Value} {F : List Bool} {R : List (List Int)} (hF : IsBools s P vF F) (hN : IsRows s P vN R) (hPN : ∀ A, P A → A < s.nextId) (hA : AutOk k st F R) (hn : F.length ≤ 1000000) (hk : k ≤ 26) :
    Wf kprog n_ref07_Access [.agg ⟨[.int .i64 ((k : Nat) : Int), .int .i64 st, vF, vN]⟩] s (fun v s' => ∃ (vQ vW : Value) (ord : List Nat), v = .tuple ⟨[vQ, vW]⟩ ∧ Bfs (faOf st F R).d k (faOf st F R).s ord ∧ (∀ q, q ∈ ord → q < F.length) ∧ ord.length ≤ F.length ∧ New s s' [Item.lst 1 vQ (enI (ordI ord))]) := by
  have H := Hs.start s
  have hst := hA.st
  have hRl := hA.len
  have hok := hA.ok
  have hMn : (faOf st F R).n = F.length := rfl
  refine Wf.of p_ref07_Access rfl ?_
  unfold c_ref07_Access
  refine Wc.seq ?_; refine Wc.reg ?_; refine Wo.boxH H (by conv => lhs; whnf) ?_; intro sB1 H nB1; refine Wo.op (Step.move (by conv => lhs; whnf)) ?_; refine Wo.op (Step.move (by conv => lhs; whnf)) ?_; refine Wo.nil ?_; refine Wc.seq ?_; refine Wc.reg ?_; refine Wo.op (Step.faddr rfl) ?_; refine Wo.op (Step.load rfl (H.row 0 rfl) (by rfl)) ?_; refine Wo.buildSH H (Fill.cons (by conv => lhs; whnf) (by rfl) (by rfl) (by rfl) (Fill.nil _)) ?_; intro sM12 H nM12
  have H := H.tolst 1 rfl rfl (by simp)
  refine Wo.buildSH H (Fill.cons (by conv => lhs; whnf) (by rfl) (by rfl) (by rfl) (Fill.nil _)) ?_; intro sM13 H nM13
  have H := H.tolst 2 rfl rfl (by simp)
  refine Wo.op (Step.move (by conv => lhs; whnf)) ?_; refine Wo.op (Step.move (by conv => lhs; whnf)) ?_; refine Wo.nil ?_; refine Wc.seq ?_; refine Wc.reg ?_; refine Wo.op (Step.faddr rfl) ?_; refine Wo.op (Step.load rfl (H.row 0 rfl) (by rfl)) ?_; refine Wo.op (Step.lenSl rfl (hF.at H hPN)) ?_; refine Wo.mkSliceH H rfl rfl (by omega) (by omega) (zeroB _) ?_; intro sM17 H nM17; refine Wo.op (Step.move (by conv => lhs; whnf)) ?_; refine Wo.nil ?_; refine Wc.seq ?_; refine Wc.reg ?_
  rw [show (enB (List.replicate ((F.length : Nat) : Int).toNat false)) = enB (metF F.length []) by rw [metF_nil]; rfl] at H
  have hml := metF_length F.length []
  refine Wo.op (Step.move (by conv => lhs; whnf)) ?_; refine Wo.op (Step.faddr rfl) ?_; refine Wo.op (Step.load rfl (H.row 0 rfl) (by rfl)) ?_; refine Wo.setB H 3 rfl rfl (by rfl) (by omega) (by omega) (by omega) rfl ?_ (by simp); intro p21 sT21 H nT21; refine Wo.nil ?_; refine Wc.seq ?_; refine Wc.seq ?_; refine Wc.reg ?_; refine Wo.op (Step.move (by conv => lhs; whnf)) ?_; refine Wo.nil ?_; refine Wc.mid (fun ρ' s' => ∃ (ord : List Nat) (vQ : Value) (vW : Value), (ρ' 4 = vQ) ∧ (ρ' 5 = vW) ∧ (∃ ws, Hs s.nextId s s' [Item.own s.nextId 0 [.int .i64 ((k : Nat) : Int), .int .i64 st, vF, vN], Item.lst 1 vQ (enI (ordI ord)), Item.lst 1 vW (enS ws), Item.own sM13.nextId 1 (enB (metF F.length ord))]) ∧ (Bfs (faOf st F R).d k st.toNat ord) ∧ (∀ q, q ∈ ord → q < F.length) ∧ (ord.length ≤ F.length)) (Wc.block (Wc.loop (fun m ρ' s' => ∃ (i : Nat) (ord : List Nat) (ws : List (List UInt8)) (vQ : Value) (vW : Value), (ρ' 1 = ptrV s.nextId 0) ∧ (ρ' 4 = vQ) ∧ (ρ' 5 = vW) ∧ (ρ' 6 = .slice (some ⟨sM13.nextId, 0, none⟩) F.length F.length) ∧ (ρ' 7 = .int .i64 ((i : Nat) : Int)) ∧ m = F.length - i ∧ (Hs s.nextId s s' [Item.own s.nextId 0 [.int .i64 ((k : Nat) : Int), .int .i64 st, vF, vN], Item.lst 1 vQ (enI (ordI ord)), Item.lst 1 vW (enS ws), Item.own sM13.nextId 1 (enB (metF F.length ord))]) ∧ (i ≤ ord.length) ∧ (∀ F', bfsGo (faOf st F R).d k (i + F') 0 [st.toNat] = bfsGo (faOf st F R).d k F' i ord) ∧ (ord.Nodup) ∧ (∀ q, q ∈ ord → q < F.length) ∧ (ws.length = ord.length ∧ ∀ w, w ∈ ws → w.length < ws.length)) ?_ ?_)) ?_
  · rw [show (metF F.length []).set st.toNat true = metF F.length [st.toNat] from metF_push] at H
    rw [show ([.int .i64 st] : List Value) = enI (ordI [st.toNat]) by simp [enI, ordI, Int.toNat_of_nonneg hst.1], show ([.string ⟨⟨[]⟩⟩] : List Value) = enS [[]] from rfl] at H
    exact ⟨_, 0, [st.toNat], [[]], _, _, rfl, rfl, rfl, rfl, rfl, rfl, H, by omega, by intro F'; simp, by simp, by intro q hq; simp at hq; omega, rfl, by intro w hw; simp at hw; subst hw; simp⟩
  · intro m0 ρ0 s0 hI
    obtain ⟨i, ord, ws, vQ, vW, e1, e4, e5, e6, e7, hm0, H, hi, hb, hnd, hlt, hws⟩ := hI
    refine Wc.fix (k := 1) e1 ?_; refine Wc.fix (k := 4) e4 ?_; refine Wc.fix (k := 5) e5 ?_; refine Wc.fix (k := 6) e6 ?_; refine Wc.fix (k := 7) e7 ?_
    have hle := nodup_len hnd hlt
    have hol := ordI_length ord
    refine Wc.seq ?_; refine Wc.seq ?_; refine Wc.reg ?_; refine Wo.op (Step.move (by conv => lhs; whnf)) ?_; refine Wo.op (Step.move (by conv => lhs; whnf)) ?_; refine Wo.op (Step.lenSl rfl (H.ints 1 rfl)) ?_; refine Wo.op (Step.lss rfl rfl) ?_; refine Wo.nil ?_; refine Wc.ite rfl (fun hc25 => ?_) (fun hc25 => ?_)
    · refine Wc.skip ?_; refine Wc.seq ?_; refine Wc.block ?_; refine Wc.seq ?_; refine Wc.reg ?_
      obtain ⟨p, hp⟩ : ∃ p, p = ord.getD i 0 := ⟨_, rfl⟩
      have hi' : i < ord.length := by omega
      have hpm : p ∈ ord := by rw [hp]; simp [hi']
      have hpl := hlt p hpm
      have hpg : ord[i]? = some p := by rw [hp, List.getD_eq_getElem?_getD, List.getElem?_eq_getElem hi']; rfl
      refine Wo.op (Step.move (by conv => lhs; whnf)) ?_; refine Wo.nil ?_; refine Wc.mid (fun ρ' s' => ∃ (ws : List (List UInt8)) (vQ : Value) (vW : Value), (ρ' 1 = ptrV s.nextId 0) ∧ (ρ' 4 = vQ) ∧ (ρ' 5 = vW) ∧ (ρ' 6 = .slice (some ⟨sM13.nextId, 0, none⟩) F.length F.length) ∧ (ρ' 7 = .int .i64 ((i : Nat) : Int)) ∧ (Hs s.nextId s s' [Item.own s.nextId 0 [.int .i64 ((k : Nat) : Int), .int .i64 st, vF, vN], Item.lst 1 vQ (enI (ordI (scan (faOf st F R).d p k ord))), Item.lst 1 vW (enS ws), Item.own sM13.nextId 1 (enB (metF F.length (scan (faOf st F R).d p k ord)))]) ∧ (∀ q, q ∈ (scan (faOf st F R).d p k ord) → q < F.length) ∧ (ws.length = (scan (faOf st F R).d p k ord).length ∧ ∀ w, w ∈ ws → w.length < ws.length)) (Wc.block (Wc.loop (fun m ρ' s' => ∃ (a : Nat) (ws : List (List UInt8)) (vQ : Value) (vW : Value), (ρ' 1 = ptrV s.nextId 0) ∧ (ρ' 4 = vQ) ∧ (ρ' 5 = vW) ∧ (ρ' 6 = .slice (some ⟨sM13.nextId, 0, none⟩) F.length F.length) ∧ (ρ' 7 = .int .i64 ((i : Nat) : Int)) ∧ (ρ' 8 = .int .i64 ((a : Nat) : Int)) ∧ m = k - a ∧ (Hs s.nextId s s' [Item.own s.nextId 0 [.int .i64 ((k : Nat) : Int), .int .i64 st, vF, vN], Item.lst 1 vQ (enI (ordI (scan (faOf st F R).d p a ord))), Item.lst 1 vW (enS ws), Item.own sM13.nextId 1 (enB (metF F.length (scan (faOf st F R).d p a ord)))]) ∧ (a ≤ k) ∧ (ws.length = (scan (faOf st F R).d p a ord).length ∧ ∀ w, w ∈ ws → w.length < ws.length)) ?_ ?_)) ?_
      · exact ⟨_, 0, _, _, _, rfl, rfl, rfl, rfl, rfl, rfl, rfl, H, by omega, hws⟩
      · intro m2 ρ2 s2 hI
        obtain ⟨a, ws, vQ, vW, e1, e4, e5, e6, e7, e8, hm2, H, ha, ⟨hwl, hww⟩⟩ := hI
        refine Wc.fix (k := 1) e1 ?_; refine Wc.fix (k := 4) e4 ?_; refine Wc.fix (k := 5) e5 ?_; refine Wc.fix (k := 6) e6 ?_; refine Wc.fix (k := 7) e7 ?_; refine Wc.fix (k := 8) e8 ?_
        have hlt2 := scan_sub (d := (faOf st F R).d) (p := p) (a := a) hlt (fun b hb2 => hok.2 p b hpl (by omega))
        have hsl := nodup_len (scan_nodup (d := (faOf st F R).d) (p := p) (k := a) hnd) hlt2
        have hol := ordI_length (scan (faOf st F R).d p a ord)
        obtain ⟨hg1, hg2⟩ := scan_get (d := (faOf st F R).d) (p := p) (a := a) hi'
        rw [← hp] at hg2
        have hml := metF_length F.length (scan (faOf st F R).d p a ord)
        refine Wc.seq ?_; refine Wc.seq ?_; refine Wc.reg ?_; refine Wo.op (Step.move (by conv => lhs; whnf)) ?_; refine Wo.op (Step.faddr rfl) ?_; refine Wo.op (Step.load rfl (H.row 0 rfl) (by rfl)) ?_; refine Wo.op (Step.lss rfl rfl) ?_; refine Wo.nil ?_; refine Wc.ite rfl (fun hc31 => ?_) (fun hc31 => ?_)
        · refine Wc.skip ?_; refine Wc.seq ?_; refine Wc.block ?_; refine Wc.seq ?_; refine Wc.draw ?_; refine Wd.pure rfl (Step.faddr rfl) ?_; refine Wd.read rfl (Step.load rfl (H.row 0 rfl) (by rfl)) ?_; refine Wd.pure rfl (Step.move (by conv => lhs; whnf)) ?_; refine Wd.pure rfl (Step.move (by conv => lhs; whnf)) ?_; refine Wd.idxI rfl (H.ints 1 rfl) rfl (by omega) (by omega) ?_; intro p38
          rw [hg2]
          have hrl := (hA.row _ (getr_mem (R := R) (q := ((p : Nat) : Int)) (by omega) (by omega))).1
          refine Wd.idxR0 H rfl (hN) hPN rfl (by omega) (by omega) ?_; intro p40 u41 hu41; refine Wd.pure rfl (Step.move (by conv => lhs; whnf)) ?_; refine Wd.idxI rfl (hu41.at H hPN) rfl (by omega) (by omega) ?_; intro p43
          have hq := (hA.get (q := p) (a := a) hpl (by omega)).2
          rw [hq]
          have hql : (faOf st F R).d p a < F.length := hok.2 p a hpl (by omega)
          refine Wd.pure rfl (Step.move (by conv => lhs; whnf)) ?_; refine Wd.nil ?_; refine Wc.seq ?_; refine Wc.reg ?_; refine Wo.op (Step.move (by conv => lhs; whnf)) ?_; refine Wo.op (Step.move (by conv => lhs; whnf)) ?_; refine Wo.idxB rfl (H.brow 3 (by rfl) (by first | rfl | omega)) rfl (by omega) (by omega) ?_; intro p47
          rw [metF_get hql]
          refine Wo.op (Step.notD rfl) ?_; refine Wo.nil ?_; refine Wc.ite rfl (fun hc49 => ?_) (fun hc49 => ?_)
          · have hm : (faOf st F R).d p a ∉ (scan (faOf st F R).d p a ord) := hc49
            refine Wc.seq ?_; refine Wc.reg ?_; refine Wo.op (Step.move (by conv => lhs; whnf)) ?_; refine Wo.op (Step.move (by conv => lhs; whnf)) ?_; refine Wo.setB H 3 rfl rfl (by rfl) (by omega) (by omega) (by omega) rfl ?_ (by simp); intro p52 sT52 H nT52; refine Wo.nil ?_; refine Wc.draw ?_
            rw [Int.toNat_natCast, metF_push] at H
            refine Wd.pure rfl (Step.move (by conv => lhs; whnf)) ?_; refine Wd.pure rfl (Step.move (by conv => lhs; whnf)) ?_; refine Wd.buildSH H (Fill.cons (by conv => lhs; whnf) (by rfl) (by rfl) (by rfl) (Fill.nil _)) (fun s' hp => by have H := H.pur hp; exact trivial) ?_; intro sM55 cM55 H nM55; refine Wd.pure rfl (Step.move (by conv => lhs; whnf)) ?_; refine Wd.pure rfl (Step.move (by conv => lhs; whnf)) ?_; refine Wd.pure rfl (Step.move (by conv => lhs; whnf)) ?_; refine Wd.idxS rfl (H.strs 2 rfl) rfl (by omega) (by omega) ?_; intro p60; refine Wd.pure rfl (Step.move (by conv => lhs; whnf)) ?_; refine Wd.pure rfl (Step.add (a := 97) rfl rfl (by omega)) ?_; refine Wd.pure rfl (Step.convTo rfl (convB _ (by omega))) ?_; refine Wd.buildSH H (Fill.cons (by conv => lhs; whnf) (by rfl) (by rfl) (by rfl) (Fill.nil _)) (fun s' hp => by have H := H.pur hp; exact ⟨fun _ => (H.strs 2 rfl), fun _ => (H.again 4 rfl (veqs_one (veq_int _ _))), trivial⟩) ?_; intro sM65 cM65 H nM65; refine Wd.read rfl (Step.strOf rfl (H.rawbytes 5 (xs := [UInt8.ofNat (97 + ((a : Nat) : Int)).toNat]) rfl)) ?_
            have hgw := hww _ (gets_mem (xs := ws) (i := i) (by omega))
            refine Wd.pure rfl (Step.sadd rfl rfl (by (simp only [List.length_singleton]; omega))) ?_; refine Wd.buildSH H (Fill.cons (by conv => lhs; whnf) (by rfl) (by rfl) (by rfl) (Fill.nil _)) (fun s' hp => by have H := H.pur hp; exact ⟨fun _ => ⟨_, _, Step.strOf rfl (H.rawbytes 5 (xs := [UInt8.ofNat (97 + ((a : Nat) : Int)).toNat]) rfl), veq_str _⟩, fun _ => (H.again 5 rfl (veqs_one (veq_int _ _))), fun _ => (H.strs 2 rfl), fun _ => (H.again 4 rfl (veqs_one (veq_int _ _))), trivial⟩) ?_; intro sM68 cM68 H nM68; refine Wd.appGI H 1 4 rfl (by rfl) rfl (by rfl) (by omega) ?_; intro v56 sA56 H nA56; refine ⟨⟨fun _ => (H.again 6 rfl (veqs_one (veq_str _))), fun _ => ⟨_, _, Step.strOf rfl (H.rawbytes 5 (xs := [UInt8.ofNat (97 + ((a : Nat) : Int)).toNat]) rfl), veq_str _⟩, fun _ => (H.again 5 rfl (veqs_one (veq_int _ _))), fun _ => (H.strs 2 rfl), fun h => absurd h (by omega), trivial⟩, ?_⟩; refine Wd.appGS H 2 6 rfl (by rfl) rfl (by rfl) (by omega) ?_; intro v69 sA69 H nA69; refine ⟨⟨fun h => absurd h (by omega), fun h => absurd h (by omega), fun h => absurd h (by omega), fun h => absurd h (by omega), fun h => absurd h (by omega), trivial⟩, ?_⟩; refine Wd.pure rfl (Step.move (by conv => lhs; whnf)) ?_; refine Wd.pure rfl (Step.move (by conv => lhs; whnf)) ?_; refine Wd.nil ?_; refine Wc.reg ?_; refine Wo.op (Step.move (by conv => lhs; whnf)) ?_; refine Wo.op (Step.add (b := 1) rfl rfl (by omega)) ?_; refine Wo.op (Step.move (by conv => lhs; whnf)) ?_; refine Wo.nil ?_
            have hsc : (scan (faOf st F R).d p (a + 1) ord) = (scan (faOf st F R).d p a ord) ++ [(faOf st F R).d p a] := by simp only [scan, visit]; rw [if_neg hm]
            rw [← ordI_snoc, ← hsc] at H
            refine ⟨_, ?_, a + 1, _, _, _, rfl, rfl, rfl, rfl, rfl, rfl, rfl, H.take 4, by omega, by rw [hsc, List.length_append, List.length_append, hwl]; rfl, by
              intro w hw
              rw [List.mem_append, List.mem_singleton] at hw
              rw [List.length_append, List.length_singleton]
              rcases hw with hw | rfl
              · have := hww w hw; omega
              · rw [List.length_append, List.length_singleton]; omega⟩
            omega
          · have hm : (faOf st F R).d p a ∈ (scan (faOf st F R).d p a ord) := Classical.byContradiction hc49
            refine Wc.skip ?_; refine Wc.reg ?_; refine Wo.op (Step.move (by conv => lhs; whnf)) ?_; refine Wo.op (Step.add (b := 1) rfl rfl (by omega)) ?_; refine Wo.op (Step.move (by conv => lhs; whnf)) ?_; refine Wo.nil ?_
            have hsc : (scan (faOf st F R).d p (a + 1) ord) = (scan (faOf st F R).d p a ord) := by simp only [scan, visit]; rw [if_pos hm]
            refine ⟨_, ?_, a + 1, _, _, _, rfl, rfl, rfl, rfl, rfl, rfl, rfl, by rw [hsc]; exact H, by omega, by rw [hsc]; exact hwl, hww⟩
            omega
        · refine Wc.exit ?_; refine .inl ⟨rfl, ?_⟩
          have hak : a = k := by omega
          subst hak
          exact ⟨_, _, _, rfl, rfl, rfl, rfl, rfl, H, hlt2, hwl, hww⟩
      · intro ρx2 sx2 hP
        obtain ⟨ws, vQ, vW, e1, e4, e5, e6, e7, H, hlt2, hws2⟩ := hP
        show Wc _ _ _ _ _ _ _
        refine Wc.fix (k := 1) e1 ?_; refine Wc.fix (k := 4) e4 ?_; refine Wc.fix (k := 5) e5 ?_; refine Wc.fix (k := 6) e6 ?_; refine Wc.fix (k := 7) e7 ?_
        obtain ⟨hg1, hg2⟩ := scan_get (d := (faOf st F R).d) (p := p) (a := k) hi'
        refine Wc.reg ?_; refine Wo.op (Step.move (by conv => lhs; whnf)) ?_; refine Wo.op (Step.add (b := 1) rfl rfl (by omega)) ?_; refine Wo.op (Step.move (by conv => lhs; whnf)) ?_; refine Wo.nil ?_; refine ⟨_, ?_, i + 1, (scan (faOf st F R).d p k ord), _, _, _, rfl, rfl, rfl, rfl, rfl, rfl, H, by omega, by intro F'; rw [show i + 1 + F' = i + (F' + 1) by omega, hb]; simp only [bfsGo, hpg], scan_nodup hnd, hlt2, hws2⟩
        omega
    · refine Wc.exit ?_; refine .inl ⟨rfl, ?_⟩
      exact ⟨ord, _, _, rfl, rfl, ⟨ws, H⟩, ⟨i + 1, by rw [hb]; simp only [bfsGo]; rw [List.getElem?_eq_none (by omega)]⟩, hlt, hle⟩
  · intro ρx0 sx0 hP
    obtain ⟨ord, vQ, vW, e4, e5, ⟨ws, H⟩, hb, hlt, hle⟩ := hP
    show Wc _ _ _ _ _ _ _
    refine Wc.fix (k := 4) e4 ?_; refine Wc.fix (k := 5) e5 ?_; refine Wc.seq ?_; refine Wc.reg ?_; refine Wo.op (Step.move (by conv => lhs; whnf)) ?_; refine Wo.op (Step.move (by conv => lhs; whnf)) ?_; refine Wo.op (Step.move (by conv => lhs; whnf)) ?_; refine Wo.op (Step.move (by conv => lhs; whnf)) ?_; refine Wo.nil ?_; refine Wc.ret ⟨_, Rs.tmp (by conv => lhs; whnf) (Rs.tmp (by conv => lhs; whnf) (Rs.nil)), ?_⟩
    exact ⟨_, _, ord, rfl, hb, hlt, hle, H.new1 1 rfl⟩
end Go.EvK
end

section
set_option linter.unusedVariables false
set_option maxRecDepth 100000
set_option maxHeartbeats 4000000
namespace Go.EvK
open Go Go.Ev Go.EvW Go.Co Go.Aut
theorem ref07_Trim_ok {s : St} {P : Nat → Prop} {k : Nat} {st : Int} {vF vN : Value} {F : List Bool} {R : List (List Int)} (hF : IsBools s P vF F) (hN : IsRows s P vN R) (hPN : ∀ A, P A → A < s.nextId) (hA : AutOk k st F R) (hn : F.length ≤ 1000000) (hk : k ≤ 26) :
    Wf kprog n_ref07_Trim [.agg ⟨[.int .i64 ((k : Nat) : Int), .int .i64 st, vF, vN]⟩] s (fun v s' => ∃ vF' vN' vs' G ord vP, Bfs (faOf st F R).d k (faOf st F R).s ord ∧ (∀ q ∈ ord, q < F.length) ∧ ord.length ≤ F.length ∧ v = .tuple ⟨[.agg ⟨[.int .i64 ((k : Nat) : Int), .int .i64 0, vF', vN']⟩, vP]⟩ ∧
      New s s' [Item.lst 1 vF' (enB (ord.map (faOf st F R).f)), Item.rows vN' vs' (ord.map (rowF (faOf st F R).d k ord)) G]) := by
  have H := Hs.start s
  have hst := hA.st
  have hRl := hA.len
  have hok := hA.ok
  refine Wf.of p_ref07_Trim rfl ?_
  unfold c_ref07_Trim
  refine Wc.seq ?_; refine Wc.reg ?_; refine Wo.boxH H (by conv => lhs; whnf) ?_; intro sB1 H nB1; refine Wo.allocH H ?_; intro sB2 H nB2; refine Wo.op (Step.move (by conv => lhs; whnf)) ?_; refine Wo.nil ?_; refine Wc.seq ?_; refine Wc.reg ?_; refine Wo.op (Step.loadN rfl (H.row 0 rfl) (by rfl)) ?_
  -- call ref07_Access
  refine Wo.call (Wf.mono (ref07_Access_ok (hF.at H hPN) (hN.at H hPN) (fun A hA => by have := hPN A hA; omega) hA hn hk) ?_)
  rintro _ s3 ⟨vQ, vW, ord, rfl, hb, hlt, hle, hnew⟩
  have H := H.adds hnew
  have hol := ordI_length ord
  obtain ⟨_, hnd, _, hcl⟩ := hb.inv (fun q => q < F.length) hok.1 (fun p a ha hp => hok.2 p a hp ha)
  refine Wo.op (Step.move (by conv => lhs; whnf)) ?_; refine Wo.op (Step.extract rfl (by rfl)) ?_; refine Wo.op (Step.extract rfl (by rfl)) ?_; refine Wo.op (Step.move (by conv => lhs; whnf)) ?_; refine Wo.op (Step.move (by conv => lhs; whnf)) ?_; refine Wo.nil ?_; refine Wc.seq ?_; refine Wc.reg ?_; refine Wo.op (Step.faddr rfl) ?_; refine Wo.op (Step.load rfl (H.row 0 rfl) (by rfl)) ?_; refine Wo.op (Step.lenSl rfl (hF.at H hPN)) ?_; refine Wo.mkSliceH H rfl rfl (by omega) (by omega) (zeroI _) ?_; intro sM24 H nM24; refine Wo.op (Step.move (by conv => lhs; whnf)) ?_; refine Wo.nil ?_; refine Wc.seq ?_; refine Wc.seq ?_; refine Wc.reg ?_; refine Wo.op (Step.move (by conv => lhs; whnf)) ?_; refine Wo.op (Step.lenS rfl) ?_; refine Wo.op (Step.move (by conv => lhs; whnf)) ?_; refine Wo.nil ?_; refine Wc.mid (fun ρ' s' => (ρ' 1 = ptrV s.nextId 0) ∧ (ρ' 2 = ptrV sB1.nextId 0) ∧ (ρ' 4 = vQ) ∧ (ρ' 6 = .slice (some ⟨s3.nextId, 0, none⟩) F.length F.length) ∧ (Hs s.nextId s s' [Item.own s.nextId 0 [.int .i64 ((k : Nat) : Int), .int .i64 st, vF, vN], Item.own sB1.nextId 0 [.int .i64 (.ofNat 0), .int .i64 (.ofNat 0), .slice none 0 0, .slice none 0 0], Item.lst 1 vQ (enI (ordI ord)), Item.own s3.nextId 1 (enI (atF F.length []))])) (Wc.block (Wc.loop (fun m ρ' s' => ∃ (i : Nat) (xs : List Int), (ρ' 1 = ptrV s.nextId 0) ∧ (ρ' 2 = ptrV sB1.nextId 0) ∧ (ρ' 4 = vQ) ∧ (ρ' 6 = .slice (some ⟨s3.nextId, 0, none⟩) F.length F.length) ∧ (ρ' 26 = .int .i64 ((F.length : Nat) : Int)) ∧ (ρ' 27 = .int .i64 ((i : Nat) : Int)) ∧ m = F.length - i ∧ (Hs s.nextId s s' [Item.own s.nextId 0 [.int .i64 ((k : Nat) : Int), .int .i64 st, vF, vN], Item.own sB1.nextId 0 [.int .i64 (.ofNat 0), .int .i64 (.ofNat 0), .slice none 0 0, .slice none 0 0], Item.lst 1 vQ (enI (ordI ord)), Item.own s3.nextId 1 (enI xs)]) ∧ (xs.length = F.length ∧ i ≤ F.length) ∧ (∀ j, j < i → geti xs (j : Nat) = -1)) ?_ ?_)) ?_
  · exact ⟨_, 0, _, rfl, rfl, rfl, rfl, rfl, rfl, rfl, H, ⟨by simp, by omega⟩, by intro j hj; omega⟩
  · intro m0 ρ0 s0 hI
    obtain ⟨i, xs, e1, e2, e4, e6, e26, e27, hm0, H, hx, hz⟩ := hI
    refine Wc.fix (k := 1) e1 ?_; refine Wc.fix (k := 2) e2 ?_; refine Wc.fix (k := 4) e4 ?_; refine Wc.fix (k := 6) e6 ?_; refine Wc.fix (k := 26) e26 ?_; refine Wc.fix (k := 27) e27 ?_; refine Wc.seq ?_; refine Wc.reg ?_; refine Wo.op (Step.lss rfl rfl) ?_; refine Wo.nil ?_; refine Wc.seq ?_; refine Wc.ite rfl (fun hc28 => ?_) (fun hc28 => ?_)
    · refine Wc.skip ?_; refine Wc.seq ?_; refine Wc.block ?_; refine Wc.seq ?_; refine Wc.reg ?_; refine Wo.op (Step.move (by conv => lhs; whnf)) ?_; refine Wo.op (Step.move (by conv => lhs; whnf)) ?_; refine Wo.nil ?_; refine Wc.reg ?_; refine Wo.op (Step.move (by conv => lhs; whnf)) ?_; refine Wo.op (Step.move (by conv => lhs; whnf)) ?_; refine Wo.setI H 3 (n := (-1)) rfl rfl (by rfl) (by omega) (by omega) (by omega) rfl ?_ (by simp); intro p32 sT32 H nT32; refine Wo.nil ?_; refine Wc.reg ?_; refine Wo.op (Step.add (b := 1) rfl rfl (by omega)) ?_; refine Wo.op (Step.move (by conv => lhs; whnf)) ?_; refine Wo.nil ?_; refine ⟨_, ?_, i + 1, _, rfl, rfl, rfl, rfl, rfl, rfl, rfl, H, ⟨by simp; omega, by omega⟩, set_step (by omega) hz⟩
      omega
    · refine Wc.exit ?_; refine .inl ⟨rfl, ?_⟩
      exact ⟨rfl, rfl, rfl, rfl, by rw [atF_nil (n := F.length) (xs := xs) hx.1 (fun j hj => hz j (by omega))] at H; exact H⟩
  · intro ρx0 sx0 hP
    obtain ⟨e1, e2, e4, e6, H⟩ := hP
    show Wc _ _ _ _ _ _ _
    refine Wc.fix (k := 1) e1 ?_; refine Wc.fix (k := 2) e2 ?_; refine Wc.fix (k := 4) e4 ?_; refine Wc.fix (k := 6) e6 ?_; refine Wc.seq ?_; refine Wc.seq ?_; refine Wc.reg ?_; refine Wo.op (Step.move (by conv => lhs; whnf)) ?_; refine Wo.op (Step.lenSl rfl (H.ints 2 rfl)) ?_; refine Wo.op (Step.move (by conv => lhs; whnf)) ?_; refine Wo.nil ?_; refine Wc.mid (fun ρ' s' => (ρ' 1 = ptrV s.nextId 0) ∧ (ρ' 2 = ptrV sB1.nextId 0) ∧ (ρ' 4 = vQ) ∧ (ρ' 6 = .slice (some ⟨s3.nextId, 0, none⟩) F.length F.length) ∧ (Hs s.nextId s s' [Item.own s.nextId 0 [.int .i64 ((k : Nat) : Int), .int .i64 st, vF, vN], Item.own sB1.nextId 0 [.int .i64 (.ofNat 0), .int .i64 (.ofNat 0), .slice none 0 0, .slice none 0 0], Item.lst 1 vQ (enI (ordI ord)), Item.own s3.nextId 1 (enI (atF F.length ord))])) (Wc.block (Wc.loop (fun m ρ' s' => ∃ (i : Nat), (ρ' 1 = ptrV s.nextId 0) ∧ (ρ' 2 = ptrV sB1.nextId 0) ∧ (ρ' 4 = vQ) ∧ (ρ' 6 = .slice (some ⟨s3.nextId, 0, none⟩) F.length F.length) ∧ (ρ' 34 = vQ) ∧ (ρ' 35 = .int .i64 (((ordI ord).length : Nat) : Int)) ∧ (ρ' 36 = .int .i64 ((i : Nat) : Int)) ∧ m = ord.length - i ∧ (Hs s.nextId s s' [Item.own s.nextId 0 [.int .i64 ((k : Nat) : Int), .int .i64 st, vF, vN], Item.own sB1.nextId 0 [.int .i64 (.ofNat 0), .int .i64 (.ofNat 0), .slice none 0 0, .slice none 0 0], Item.lst 1 vQ (enI (ordI ord)), Item.own s3.nextId 1 (enI (atF F.length (ord.take i)))]) ∧ (i ≤ ord.length)) ?_ ?_)) ?_
    · exact ⟨_, 0, rfl, rfl, rfl, rfl, rfl, rfl, rfl, rfl, by rw [List.take_zero]; exact H, by omega⟩
    · intro m2 ρ2 s2 hI
      obtain ⟨i, e1, e2, e4, e6, e34, e35, e36, hm2, H, hi⟩ := hI
      refine Wc.fix (k := 1) e1 ?_; refine Wc.fix (k := 2) e2 ?_; refine Wc.fix (k := 4) e4 ?_; refine Wc.fix (k := 6) e6 ?_; refine Wc.fix (k := 34) e34 ?_; refine Wc.fix (k := 35) e35 ?_; refine Wc.fix (k := 36) e36 ?_
      have hal := atF_length F.length (ord.take i)
      refine Wc.seq ?_; refine Wc.reg ?_; refine Wo.op (Step.lss rfl rfl) ?_; refine Wo.nil ?_; refine Wc.seq ?_; refine Wc.ite rfl (fun hc37 => ?_) (fun hc37 => ?_)
      · refine Wc.skip ?_; refine Wc.seq ?_; refine Wc.block ?_; refine Wc.seq ?_; refine Wc.reg ?_; refine Wo.op (Step.move (by conv => lhs; whnf)) ?_; refine Wo.idxI rfl (H.ints 2 rfl) rfl (by omega) (by omega) ?_; intro p39; refine Wo.op (Step.move (by conv => lhs; whnf)) ?_
        have hi' : i < ord.length := by omega
        rw [ordI_get hi']
        have hpl : ord.getD i 0 < F.length := hlt _ (by simp [hi'])
        refine Wo.op (Step.move (by conv => lhs; whnf)) ?_; refine Wo.nil ?_; refine Wc.reg ?_; refine Wo.op (Step.move (by conv => lhs; whnf)) ?_; refine Wo.op (Step.move (by conv => lhs; whnf)) ?_; refine Wo.op (Step.move (by conv => lhs; whnf)) ?_; refine Wo.setI H 3 rfl rfl (by rfl) (by omega) (by omega) (by omega) rfl ?_ (by simp); intro p44 sT44 H nT44; refine Wo.nil ?_; refine Wc.reg ?_; refine Wo.op (Step.add (b := 1) rfl rfl (by omega)) ?_; refine Wo.op (Step.move (by conv => lhs; whnf)) ?_; refine Wo.nil ?_
        have hni : ord.getD i 0 ∉ ord.take i := fun h => by
          have := take_snoc hi' (show ord = ord ++ [] by simp)
          have h2 : (ord.take (i + 1)).Nodup := hnd.sublist (List.take_sublist _ _)
          rw [this, List.nodup_append] at h2
          exact h2.2.2 _ h _ (List.mem_singleton.2 rfl) rfl
        have htl : (ord.take i).length = i := by rw [List.length_take]; omega
        have hpu := atF_push (n := F.length) hpl hni
        rw [htl, ← take_snoc hi' (show ord = ord ++ [] by simp)] at hpu
        rw [Int.toNat_natCast, hpu] at H
        refine ⟨_, ?_, i + 1, rfl, rfl, rfl, rfl, rfl, rfl, rfl, rfl, H, by omega⟩
        omega
      · refine Wc.exit ?_; refine .inl ⟨rfl, ?_⟩
        exact ⟨rfl, rfl, rfl, rfl, by rw [List.take_of_length_le (by omega)] at H; exact H⟩
    · intro ρx2 sx2 hP
      obtain ⟨e1, e2, e4, e6, H⟩ := hP
      show Wc _ _ _ _ _ _ _
      refine Wc.fix (k := 1) e1 ?_; refine Wc.fix (k := 2) e2 ?_; refine Wc.fix (k := 4) e4 ?_; refine Wc.fix (k := 6) e6 ?_
      have hal := atF_length F.length ord
      refine Wc.seq ?_; refine Wc.reg ?_; refine Wo.op (Step.faddr rfl) ?_; refine Wo.op (Step.load rfl (H.row 0 rfl) (by rfl)) ?_; refine Wo.op (Step.buildF (Fill.cons (by conv => lhs; whnf) (by rfl) (by rfl) (by rfl) (Fill.nil _))) ?_; refine Wo.allocH H ?_; intro sB10 H nB10; refine Wo.storeH H 4 rfl rfl (by conv => lhs; whnf) (by rfl) (ones_cons (by rfl) (ones_cons (by rfl) (ones_cons (by rfl) (ones_cons (by rfl) (rfl))))) (by rfl) ?_; intro sS0 H nS0
      have H := H.addNil 1
      have H := H.addRows
      refine Wo.nil ?_; refine Wc.seq ?_; refine Wc.seq ?_; refine Wc.reg ?_; refine Wo.op (Step.move (by conv => lhs; whnf)) ?_; refine Wo.op (Step.lenSl rfl (H.ints 2 rfl)) ?_; refine Wo.op (Step.move (by conv => lhs; whnf)) ?_; refine Wo.nil ?_; refine Wc.mid (fun ρ' s' => ∃ (vF' : Value) (vN' : Value) (vs' : List Value) (G : List Nat), (ρ' 2 = ptrV sB1.nextId 0) ∧ (ρ' 6 = .slice (some ⟨s3.nextId, 0, none⟩) F.length F.length) ∧ (ρ' 10 = ptrV sx2.nextId 0) ∧ (Hs s.nextId s s' [Item.own s.nextId 0 [.int .i64 ((k : Nat) : Int), .int .i64 st, vF, vN], Item.own sB1.nextId 0 [.int .i64 (.ofNat 0), .int .i64 (.ofNat 0), .slice none 0 0, .slice none 0 0], Item.lst 1 vQ (enI (ordI ord)), Item.own s3.nextId 1 (enI (atF F.length ord)), Item.own sx2.nextId 0 [.int .i64 ((k : Nat) : Int), .int .i64 (.ofNat 0), vF', vN'], Item.lst 1 vF' (enB (ord.map (faOf st F R).f)), Item.rows vN' vs' (ord.map (rowF (faOf st F R).d k ord)) G])) (Wc.block (Wc.loop (fun m ρ' s' => ∃ (i : Nat) (vF' : Value) (vN' : Value) (vs' : List Value) (G : List Nat), (ρ' 1 = ptrV s.nextId 0) ∧ (ρ' 2 = ptrV sB1.nextId 0) ∧ (ρ' 6 = .slice (some ⟨s3.nextId, 0, none⟩) F.length F.length) ∧ (ρ' 10 = ptrV sx2.nextId 0) ∧ (ρ' 49 = vQ) ∧ (ρ' 50 = .int .i64 (((ordI ord).length : Nat) : Int)) ∧ (ρ' 51 = .int .i64 ((i : Nat) : Int)) ∧ m = ord.length - i ∧ (Hs s.nextId s s' [Item.own s.nextId 0 [.int .i64 ((k : Nat) : Int), .int .i64 st, vF, vN], Item.own sB1.nextId 0 [.int .i64 (.ofNat 0), .int .i64 (.ofNat 0), .slice none 0 0, .slice none 0 0], Item.lst 1 vQ (enI (ordI ord)), Item.own s3.nextId 1 (enI (atF F.length ord)), Item.own sx2.nextId 0 [.int .i64 ((k : Nat) : Int), .int .i64 (.ofNat 0), vF', vN'], Item.lst 1 vF' (enB ((ord.take i).map (faOf st F R).f)), Item.rows vN' vs' ((ord.take i).map (rowF (faOf st F R).d k ord)) G]) ∧ (i ≤ ord.length)) ?_ ?_)) ?_
      · exact ⟨_, 0, .slice none 0 0, .slice none 0 0, [], [], rfl, rfl, rfl, rfl, rfl, rfl, rfl, rfl, H, by omega⟩
      · intro m4 ρ4 s4 hI
        obtain ⟨i, vF', vN', vs', G, e1, e2, e6, e10, e49, e50, e51, hm4, H, hi⟩ := hI
        refine Wc.fix (k := 1) e1 ?_; refine Wc.fix (k := 2) e2 ?_; refine Wc.fix (k := 6) e6 ?_; refine Wc.fix (k := 10) e10 ?_; refine Wc.fix (k := 49) e49 ?_; refine Wc.fix (k := 50) e50 ?_; refine Wc.fix (k := 51) e51 ?_; refine Wc.seq ?_; refine Wc.reg ?_; refine Wo.op (Step.lss rfl rfl) ?_; refine Wo.nil ?_; refine Wc.seq ?_; refine Wc.ite rfl (fun hc52 => ?_) (fun hc52 => ?_)
        · refine Wc.skip ?_; refine Wc.seq ?_; refine Wc.block ?_; refine Wc.seq ?_; refine Wc.reg ?_; refine Wo.idxI rfl (H.ints 2 rfl) rfl (by omega) (by omega) ?_; intro p53
          obtain ⟨p, hp⟩ : ∃ p, p = ord.getD i 0 := ⟨_, rfl⟩
          have hi' : i < ord.length := by omega
          have hpm : p ∈ ord := by rw [hp]; simp [hi']
          have hpl := hlt p hpm
          rw [ordI_get hi', ← hp]
          refine Wo.op (Step.move (by conv => lhs; whnf)) ?_; refine Wo.nil ?_; refine Wc.seq ?_; refine Wc.reg ?_; refine Wo.op (Step.move (by conv => lhs; whnf)) ?_; refine Wo.nil ?_; refine Wc.seq ?_; refine Wc.seq ?_; refine Wc.reg ?_; refine Wo.op (Step.faddr rfl) ?_; refine Wo.op (Step.load rfl (H.row 0 rfl) (by rfl)) ?_; refine Wo.op (Step.move (by conv => lhs; whnf)) ?_; refine Wo.idxR0 H rfl (hN) hPN rfl (by omega) (by omega) ?_; intro p58 u59 hu59
          have hrl := (hA.row _ (getr_mem (R := R) (q := ((p : Nat) : Int)) (by omega) (by omega))).1
          refine Wo.op (Step.lenSl rfl (hu59.at H hPN)) ?_; refine Wo.op (Step.move (by conv => lhs; whnf)) ?_; refine Wo.nil ?_; refine Wc.mid (fun ρ' s' => ∃ (vR : Value), (ρ' 1 = ptrV s.nextId 0) ∧ (ρ' 2 = ptrV sB1.nextId 0) ∧ (ρ' 6 = .slice (some ⟨s3.nextId, 0, none⟩) F.length F.length) ∧ (ρ' 10 = ptrV sx2.nextId 0) ∧ (ρ' 12 = .int .i64 ((p : Nat) : Int)) ∧ (ρ' 13 = vR) ∧ (ρ' 49 = vQ) ∧ (ρ' 50 = .int .i64 (((ordI ord).length : Nat) : Int)) ∧ (ρ' 51 = .int .i64 ((i : Nat) : Int)) ∧ (Hs s.nextId s s' [Item.own s.nextId 0 [.int .i64 ((k : Nat) : Int), .int .i64 st, vF, vN], Item.own sB1.nextId 0 [.int .i64 (.ofNat 0), .int .i64 (.ofNat 0), .slice none 0 0, .slice none 0 0], Item.lst 1 vQ (enI (ordI ord)), Item.own s3.nextId 1 (enI (atF F.length ord)), Item.own sx2.nextId 0 [.int .i64 ((k : Nat) : Int), .int .i64 (.ofNat 0), vF', vN'], Item.lst 1 vF' (enB ((ord.take i).map (faOf st F R).f)), Item.rows vN' vs' ((ord.take i).map (rowF (faOf st F R).d k ord)) G, Item.lst 1 vR (enI (rowF (faOf st F R).d k ord p))])) (Wc.block (Wc.loop (fun m ρ' s' => ∃ (a : Nat) (vR : Value), (ρ' 1 = ptrV s.nextId 0) ∧ (ρ' 2 = ptrV sB1.nextId 0) ∧ (ρ' 6 = .slice (some ⟨s3.nextId, 0, none⟩) F.length F.length) ∧ (ρ' 10 = ptrV sx2.nextId 0) ∧ (ρ' 12 = .int .i64 ((p : Nat) : Int)) ∧ (ρ' 13 = vR) ∧ (ρ' 49 = vQ) ∧ (ρ' 50 = .int .i64 (((ordI ord).length : Nat) : Int)) ∧ (ρ' 51 = .int .i64 ((i : Nat) : Int)) ∧ (ρ' 59 = u59) ∧ (ρ' 60 = .int .i64 ((k : Nat) : Int)) ∧ (ρ' 61 = .int .i64 ((a : Nat) : Int)) ∧ m = k - a ∧ (Hs s.nextId s s' [Item.own s.nextId 0 [.int .i64 ((k : Nat) : Int), .int .i64 st, vF, vN], Item.own sB1.nextId 0 [.int .i64 (.ofNat 0), .int .i64 (.ofNat 0), .slice none 0 0, .slice none 0 0], Item.lst 1 vQ (enI (ordI ord)), Item.own s3.nextId 1 (enI (atF F.length ord)), Item.own sx2.nextId 0 [.int .i64 ((k : Nat) : Int), .int .i64 (.ofNat 0), vF', vN'], Item.lst 1 vF' (enB ((ord.take i).map (faOf st F R).f)), Item.rows vN' vs' ((ord.take i).map (rowF (faOf st F R).d k ord)) G, Item.lst 1 vR (enI ((List.range a).map fun b => ((ord.idxOf ((faOf st F R).d p b) : Nat) : Int)))]) ∧ (a ≤ k)) ?_ ?_)) ?_
          · have H := H.addNil 1
            exact ⟨_, 0, _, rfl, rfl, rfl, rfl, rfl, rfl, rfl, rfl, rfl, rfl, congrArg (fun n : Nat => Value.int .i64 (n : Int)) hrl, rfl, rfl, H, by omega⟩
          · intro m6 ρ6 s6 hI
            obtain ⟨a, vR, e1, e2, e6, e10, e12, e13, e49, e50, e51, e59, e60, e61, hm6, H, ha⟩ := hI
            refine Wc.fix (k := 1) e1 ?_; refine Wc.fix (k := 2) e2 ?_; refine Wc.fix (k := 6) e6 ?_; refine Wc.fix (k := 10) e10 ?_; refine Wc.fix (k := 12) e12 ?_; refine Wc.fix (k := 13) e13 ?_; refine Wc.fix (k := 49) e49 ?_; refine Wc.fix (k := 50) e50 ?_; refine Wc.fix (k := 51) e51 ?_; refine Wc.fix (k := 59) e59 ?_; refine Wc.fix (k := 60) e60 ?_; refine Wc.fix (k := 61) e61 ?_
            have hrr : ((List.range a).map fun b => ((ord.idxOf ((faOf st F R).d p b) : Nat) : Int)).length = a := by simp
            refine Wc.seq ?_; refine Wc.reg ?_; refine Wo.op (Step.lss rfl rfl) ?_; refine Wo.nil ?_; refine Wc.seq ?_; refine Wc.ite rfl (fun hc62 => ?_) (fun hc62 => ?_)
            · refine Wc.skip ?_; refine Wc.seq ?_; refine Wc.block ?_; refine Wc.seq ?_; refine Wc.reg ?_; refine Wo.idxI rfl (hu59.at H hPN) rfl (by omega) (by omega) ?_; intro p63
              have hq := (hA.get (q := p) (a := a) hpl (by omega)).2
              rw [hq]
              have hql : (faOf st F R).d p a < F.length := hok.2 p a hpl (by omega)
              refine Wo.op (Step.move (by conv => lhs; whnf)) ?_; refine Wo.nil ?_; refine Wc.reg ?_; refine Wo.op (Step.move (by conv => lhs; whnf)) ?_; refine Wo.op (Step.move (by conv => lhs; whnf)) ?_; refine Wo.op (Step.move (by conv => lhs; whnf)) ?_; refine Wo.idxI rfl (H.orow 3 (by rfl) (by first | rfl | omega)) rfl (by omega) (by omega) ?_; intro p68
              rw [atF_get hql, if_pos (hcl p hpm a (by omega))]
              refine Wo.appI H 7 rfl (by rfl) rfl (by simp) (by omega) ?_; intro p70 v71 sA71 H nA71; refine Wo.op (Step.move (by conv => lhs; whnf)) ?_; refine Wo.nil ?_; refine Wc.reg ?_; refine Wo.op (Step.add (b := 1) rfl rfl (by omega)) ?_; refine Wo.op (Step.move (by conv => lhs; whnf)) ?_; refine Wo.nil ?_
              have e : ((List.range a).map fun b => ((ord.idxOf ((faOf st F R).d p b) : Nat) : Int)) ++ [((ord.idxOf ((faOf st F R).d p a) : Nat) : Int)] = ((List.range (a + 1)).map fun b => ((ord.idxOf ((faOf st F R).d p b) : Nat) : Int)) := by rw [List.range_succ, List.map_append]; rfl
              rw [e] at H
              refine ⟨_, ?_, a + 1, _, rfl, rfl, rfl, rfl, rfl, rfl, rfl, rfl, rfl, rfl, rfl, rfl, rfl, H, by omega⟩
              omega
            · refine Wc.exit ?_; refine .inl ⟨rfl, ?_⟩
              have hak : a = k := by omega
              subst hak
              exact ⟨_, rfl, rfl, rfl, rfl, rfl, rfl, rfl, rfl, rfl, H⟩
          · intro ρx6 sx6 hP
            obtain ⟨vR, e1, e2, e6, e10, e12, e13, e49, e50, e51, H⟩ := hP
            show Wc _ _ _ _ _ _ _
            refine Wc.fix (k := 1) e1 ?_; refine Wc.fix (k := 2) e2 ?_; refine Wc.fix (k := 6) e6 ?_; refine Wc.fix (k := 10) e10 ?_; refine Wc.fix (k := 12) e12 ?_; refine Wc.fix (k := 13) e13 ?_; refine Wc.fix (k := 49) e49 ?_; refine Wc.fix (k := 50) e50 ?_; refine Wc.fix (k := 51) e51 ?_; refine Wc.draw ?_; refine Wd.pure rfl (Step.faddr rfl) ?_; refine Wd.read rfl (Step.load rfl (H.row 4 rfl) (by rfl)) ?_; refine Wd.pure rfl (Step.move (by conv => lhs; whnf)) ?_; refine Wd.buildSH H (Fill.cons (by conv => lhs; whnf) (Sl.cellE (H.ints 7 rfl) rfl) (by rfl) (by rfl) (Fill.nil _)) (fun s' hp => by have H := H.pur hp; exact ⟨fun _ => reread rfl (H.row 4 rfl) (by rfl) (Sl.veq (H.rsl 6 rfl)), trivial⟩) ?_; intro sM76 cM76 H nM76; refine Wd.pure rfl (Step.faddr rfl) ?_; refine Wd.read rfl (Step.load rfl (H.row 4 rfl) (by rfl)) ?_; refine Wd.pure rfl (Step.faddr rfl) ?_; refine Wd.read rfl (Step.load rfl (H.row 0 rfl) (by rfl)) ?_; refine Wd.pure rfl (Step.move (by conv => lhs; whnf)) ?_; refine Wd.idxB rfl (hF.at H hPN) rfl (by omega) (by omega) ?_; intro p83; refine Wd.buildSH H (Fill.cons (by conv => lhs; whnf) (by rfl) (by rfl) (by rfl) (Fill.nil _)) (fun s' hp => by have H := H.pur hp; exact ⟨fun _ => (hF.at H hPN), fun _ => reread rfl (H.row 0 rfl) (by rfl) (Sl.veq (hF.at H hPN)), fun _ => reread rfl (H.row 4 rfl) (by rfl) (Sl.veq (H.bools 5 rfl)), fun _ => (H.again 8 rfl (veqs_one (Sl.veq (H.ints 7 rfl)))), fun _ => reread rfl (H.row 4 rfl) (by rfl) (Sl.veq (H.rsl 6 rfl)), trivial⟩) ?_; intro sM85 cM85 H nM85; refine Wd.appGR H 6 8 7 (by decide) rfl (by rfl) (H.ints 7 rfl) rfl (by rfl) (by rfl) (by rfl) (by first | omega | (simp only [List.length_map, List.length_take]; omega) | (simp [rowF, rowP, atF, ordI, preI]; omega)) ?_; intro v77 sA77 F77 H nA77; refine ⟨⟨fun _ => (H.again 9 rfl (veqs_one (veq_bool _))), fun _ => (hF.at H hPN), fun _ => reread rfl (H.row 0 rfl) (by rfl) (Sl.veq (hF.at H hPN)), fun _ => reread rfl (H.row 4 rfl) (by rfl) (Sl.veq (H.bools 5 rfl)), fun h => absurd h (by omega), fun h => absurd h (by omega), trivial⟩, ?_⟩
            refine Wd.pure rfl (Step.faddr rfl) ?_; refine Wd.appGB H 5 9 rfl (by rfl) rfl (by rfl) (by first | omega | (simp only [List.length_map, List.length_take]; omega) | (simp [rowF, rowP, atF, ordI, preI]; omega)) ?_; intro v86 sA86 H nA86; refine ⟨⟨fun h => absurd h (by omega), fun h => absurd h (by omega), fun h => absurd h (by omega), fun h => absurd h (by omega), fun h => absurd h (by omega), fun h => absurd h (by omega), trivial⟩, ?_⟩; refine Wd.storeH H 4 rfl rfl (Sl.cellE (H.rsl 6 rfl) rfl) (by rfl) (Sl.one (H.rsl 6 rfl)) (by rfl) ?_; intro sS1 H nS1; refine ⟨⟨fun h => absurd h (by omega), fun h => absurd h (by omega), fun h => absurd h (by omega), fun h => absurd h (by omega), fun h => absurd h (by omega), fun h => absurd h (by omega), trivial⟩, ?_⟩; refine Wd.pure rfl (Step.faddr rfl) ?_; refine Wd.storeH H 4 rfl rfl (Sl.cellE (H.bools 5 rfl) rfl) (by rfl) (Sl.one (H.bools 5 rfl)) (by rfl) ?_; intro sS2 H nS2; refine ⟨⟨fun h => absurd h (by omega), fun h => absurd h (by omega), fun h => absurd h (by omega), fun h => absurd h (by omega), fun h => absurd h (by omega), fun h => absurd h (by omega), trivial⟩, ?_⟩; refine Wd.nil ?_; refine Wc.reg ?_; refine Wo.op (Step.add (b := 1) rfl rfl (by omega)) ?_; refine Wo.op (Step.move (by conv => lhs; whnf)) ?_; refine Wo.nil ?_
            have hrw := step_rows (d := (faOf st F R).d) (k := k) hi' (show ord = ord ++ [] by simp) (fun p hp a ha => hcl p (List.mem_of_mem_take hp) a ha)
            rw [← hp] at hrw
            have hfw := step_fin (faOf st F R).f hi' (show ord = ord ++ [] by simp)
            have hgb : getb F ((p : Nat) : Int) = (faOf st F R).f (ord.getD i 0) := by rw [getb_getD, hp]; rfl
            rw [hgb, hfw, hrw] at H
            refine ⟨_, ?_, i + 1, _, _, _, _, rfl, rfl, rfl, rfl, rfl, rfl, rfl, rfl, H.take 7, by omega⟩
            omega
        · refine Wc.exit ?_; refine .inl ⟨rfl, ?_⟩
          exact ⟨_, _, _, _, rfl, rfl, rfl, by rw [List.take_of_length_le (by omega)] at H; exact H⟩
      · intro ρx4 sx4 hP
        obtain ⟨vF', vN', vs', G, e2, e6, e10, H⟩ := hP
        show Wc _ _ _ _ _ _ _
        refine Wc.fix (k := 2) e2 ?_; refine Wc.fix (k := 6) e6 ?_; refine Wc.fix (k := 10) e10 ?_; refine Wc.seq ?_; refine Wc.reg ?_; refine Wo.op (Step.loadN rfl (H.row 4 rfl) (by rfl)) ?_; refine Wo.op (Step.move (by conv => lhs; whnf)) ?_; refine Wo.storeH H 1 rfl rfl (by conv => lhs; whnf) (by rfl) (ones_cons (by rfl) (ones_cons (by rfl) (ones_cons (Sl.one (H.bools 5 rfl)) (ones_cons (Sl.one (H.rsl 6 rfl)) (rfl))))) (by rfl) ?_; intro sS3 H nS3; refine Wo.op (Step.move (by conv => lhs; whnf)) ?_; refine Wo.nil ?_; refine Wc.ret ⟨_, Rs.cells rfl (Row.cells (H.row 1 rfl)) (by rfl) (Rs.tmp (by conv => lhs; whnf) (Rs.nil)), ?_⟩
        exact ⟨_, _, _, _, ord, _, hb, hlt, hle, rfl, H.new2 5 6 (by decide) rfl rfl⟩
theorem ref07_Trim_ok2 {s : St} {P : Nat → Prop} {k : Nat} {st : Int} {vF vN : Value} {F : List Bool} {R : List (List Int)} (hF : IsBools s P vF F) (hN : IsRows s P vN R) (hPN : ∀ A, P A → A < s.nextId) (hA : AutOk k st F R) (hn : F.length ≤ 1000000) (hk : k ≤ 26) :
    Wf kprog n_ref07_Trim [.agg ⟨[.int .i64 ((k : Nat) : Int), .int .i64 st, vF, vN]⟩] s (fun v s' => ∃ vF' vN' vs' G t vP, (faOf st F R).Tab k t ∧ AutOk k 0 t.1 (encT t.2) ∧ Same k (faOf 0 t.1 (encT t.2)) 0 (faOf st F R) (faOf st F R).s ∧ t.1.length ≤ F.length ∧ v = .tuple ⟨[.agg ⟨[.int .i64 ((k : Nat) : Int), .int .i64 0, vF', vN']⟩, vP]⟩ ∧
      New s s' [Item.lst 1 vF' (enB t.1), Item.rows vN' vs' (encT t.2) G]) := by
  refine (ref07_Trim_ok hF hN hPN hA hn hk).mono ?_
  rintro v s' ⟨vF', vN', vs', G, ord, vP, hb, hlt, hle, rfl, hnew⟩
  have ho := tab_ok hA hb
  refine ⟨vF', vN', vs', G, _, vP, ⟨ord, hb, rfl⟩, ?_, ?_, ?_, rfl, ?_⟩
  · rw [tab_rows]; exact ho.1
  · rw [tab_rows]; exact ho.2
  · simpa [tab] using hle
  · rw [tab_rows]; exact hnew
theorem ref08_Minimal_ok {s : St} {P : Nat → Prop} {k : Nat} {st : Int} {vF vN : Value} {F : List Bool} {R : List (List Int)} (hF : IsBools s P vF F) (hN : IsRows s P vN R) (hPN : ∀ A, P A → A < s.nextId) (hA : AutOk k st F R) (hn : F.length ≤ 1000000) (hk : k ≤ 26) :
    Wf kprog n_ref08_Minimal [.agg ⟨[.int .i64 ((k : Nat) : Int), .int .i64 st, vF, vN]⟩] s (fun v s' => ∃ vF' vN' vs' G t, Minimal k (faOf st F R) t ∧ AutOk k 0 t.1 (encT t.2) ∧ t.1.length ≤ F.length ∧ v = .agg ⟨[.int .i64 ((k : Nat) : Int), .int .i64 0, vF', vN']⟩ ∧ New s s' [Item.lst 1 vF' (enB t.1), Item.rows vN' vs' (encT t.2) G]) := by
  have H := Hs.start s
  have hst := hA.st
  have hRl := hA.len
  have hok := hA.ok
  have hMn : (faOf st F R).n = F.length := rfl
  refine Wf.of p_ref08_Minimal rfl ?_
  unfold c_ref08_Minimal
  refine Wc.seq ?_; refine Wc.reg ?_; refine Wo.boxH H (by conv => lhs; whnf) ?_; intro sB1 H nB1; refine Wo.allocH H ?_; intro sB2 H nB2; refine Wo.nil ?_; refine Wc.seq ?_; refine Wc.reg ?_; refine Wo.op (Step.loadN rfl (H.row 0 rfl) (by rfl)) ?_
  -- call ref08_Classes
  refine Wo.call (Wf.mono (ref08_Classes_ok (hF.at H hPN) (hN.at H hPN) (fun A hA => by have := hPN A hA; omega) hA hn hk) ?_)
  rintro v3 s3 ⟨cl, Zc, hne, hv3, hnew⟩
  have H := H.adds hnew
  have hcl : cl.length = F.length := hne.1
  have hfi := hne.2.1
  have hoi := ordI_length cl
  obtain ⟨hqa, hqt⟩ := quot_lists hok hne
  have hqn : (quotF (faOf st F R) cl).length ≤ F.length := by have := reps_le cl F.length; simp only [quotF, List.length_map, hMn]; omega
  have hrle := reps_le cl
  refine Wo.op (Step.move (by conv => lhs; whnf)) ?_; refine Wo.nil ?_; refine Wc.seq ?_; refine Wc.draw ?_; refine Wd.pure rfl (Step.faddr rfl) ?_; refine Wd.read rfl (Step.load rfl (H.row 0 rfl) (by rfl)) ?_; refine Wd.pure rfl (Step.move (by conv => lhs; whnf)) ?_; refine Wd.pure rfl (Step.faddr rfl) ?_; refine Wd.read rfl (Step.load rfl (H.row 0 rfl) (by rfl)) ?_; refine Wd.idxI rfl ((hv3 _ (H.ok 2 _ rfl)).mono (P' := fun _ => True) (fun A _ _ => trivial)) rfl (by omega) (by omega) ?_; intro p18
  rw [show geti (ordI cl) st = ((cl.getD (faOf st F R).s 0 : Nat) : Int) by have := geti_ordI cl st.toNat; rwa [Int.toNat_of_nonneg hst.1] at this]
  refine Wd.pure rfl (Step.buildF (Fill.cons (by conv => lhs; whnf) (by rfl) (by rfl) (by rfl) (Fill.cons (by conv => lhs; whnf) (by rfl) (by rfl) (by rfl) (Fill.nil _)))) ?_; refine Wd.allocH H (fun s' hp => by have H := H.pur hp; exact ⟨fun _ => ((hv3 _ (H.ok 2 _ rfl)).mono (P' := fun _ => True) (fun A _ _ => trivial)), fun _ => reread rfl (H.row 0 rfl) (by rfl) (veq_int _ _), fun _ => reread rfl (H.row 0 rfl) (by rfl) (veq_int _ _), trivial⟩) ?_; intro sB4 oB4 cB4 H nB4; refine Wd.storeH H 3 rfl rfl (by conv => lhs; whnf) (by rfl) (ones_cons (by rfl) (ones_cons (by rfl) (ones_cons (by rfl) (ones_cons (by rfl) (rfl))))) (by rfl) ?_; intro sS0 H nS0; refine ⟨⟨fun h => absurd h (by omega), fun h => absurd h (by omega), fun h => absurd h (by omega), fun h => absurd h (by omega), trivial⟩, ?_⟩
  have H := H.addNil 1
  have H := H.addRows
  refine Wd.nil ?_; refine Wc.seq ?_; refine Wc.reg ?_; refine Wo.op (Step.move (by conv => lhs; whnf)) ?_; refine Wo.nil ?_; refine Wc.seq ?_; refine Wc.seq ?_; refine Wc.reg ?_; refine Wo.op (Step.move (by conv => lhs; whnf)) ?_; refine Wo.op (Step.lenSl rfl ((hv3 _ (H.ok 2 _ rfl)).mono (P' := fun _ => True) (fun A _ _ => trivial))) ?_; refine Wo.op (Step.move (by conv => lhs; whnf)) ?_; refine Wo.nil ?_; refine Wc.mid (fun ρ' s' => ∃ (vF2 : Value) (vN2 : Value) (vs2 : List Value) (G2 : List Nat), (ρ' 1 = ptrV s.nextId 0) ∧ (ρ' 2 = ptrV sB1.nextId 0) ∧ (ρ' 4 = ptrV s3.nextId 0) ∧ (Hs s.nextId s s' [Item.own s.nextId 0 [.int .i64 ((k : Nat) : Int), .int .i64 st, vF, vN], Item.own sB1.nextId 0 [.int .i64 (.ofNat 0), .int .i64 (.ofNat 0), .slice none 0 0, .slice none 0 0], Zc, Item.own s3.nextId 0 [.int .i64 ((k : Nat) : Int), .int .i64 ((cl.getD (faOf st F R).s 0 : Nat) : Int), vF2, vN2], Item.lst 1 vF2 (enB (quotF (faOf st F R) cl)), Item.rows vN2 vs2 (quotR k (faOf st F R) cl) G2])) (Wc.block (Wc.loop (fun m ρ' s' => ∃ (i : Nat) (vF2 : Value) (vN2 : Value) (vs2 : List Value) (G2 : List Nat), (ρ' 1 = ptrV s.nextId 0) ∧ (ρ' 2 = ptrV sB1.nextId 0) ∧ (ρ' 3 = v3) ∧ (ρ' 4 = ptrV s3.nextId 0) ∧ (ρ' 5 = .int .i64 (((reps cl i).length : Nat) : Int)) ∧ (ρ' 21 = v3) ∧ (ρ' 22 = .int .i64 (((ordI cl).length : Nat) : Int)) ∧ (ρ' 23 = .int .i64 ((i : Nat) : Int)) ∧ m = F.length - i ∧ (Hs s.nextId s s' [Item.own s.nextId 0 [.int .i64 ((k : Nat) : Int), .int .i64 st, vF, vN], Item.own sB1.nextId 0 [.int .i64 (.ofNat 0), .int .i64 (.ofNat 0), .slice none 0 0, .slice none 0 0], Zc, Item.own s3.nextId 0 [.int .i64 ((k : Nat) : Int), .int .i64 ((cl.getD (faOf st F R).s 0 : Nat) : Int), vF2, vN2], Item.lst 1 vF2 (enB ((reps cl i).map (faOf st F R).f)), Item.rows vN2 vs2 ((reps cl i).map fun p => (List.range k).map fun a => ((cl.getD ((faOf st F R).d p a) 0 : Nat) : Int)) G2]) ∧ (i ≤ F.length)) ?_ ?_)) ?_
  · exact ⟨_, 0, .slice none 0 0, .slice none 0 0, [], [], rfl, rfl, rfl, rfl, rfl, rfl, rfl, rfl, rfl, H, by omega⟩
  · intro m0 ρ0 s0 hI
    obtain ⟨i, vF2, vN2, vs2, G2, e1, e2, e3, e4, e5, e21, e22, e23, hm0, H, hi⟩ := hI
    refine Wc.fix (k := 1) e1 ?_; refine Wc.fix (k := 2) e2 ?_; refine Wc.fix (k := 3) e3 ?_; refine Wc.fix (k := 4) e4 ?_; refine Wc.fix (k := 5) e5 ?_; refine Wc.fix (k := 21) e21 ?_; refine Wc.fix (k := 22) e22 ?_; refine Wc.fix (k := 23) e23 ?_
    have hri := hrle i
    refine Wc.seq ?_; refine Wc.reg ?_; refine Wo.op (Step.lss rfl rfl) ?_; refine Wo.nil ?_; refine Wc.seq ?_; refine Wc.ite rfl (fun hc24 => ?_) (fun hc24 => ?_)
    · refine Wc.skip ?_; refine Wc.seq ?_; refine Wc.block ?_; refine Wc.seq ?_; refine Wc.reg ?_; refine Wo.op (Step.move (by conv => lhs; whnf)) ?_; refine Wo.idxI rfl ((hv3 _ (H.ok 2 _ rfl)).mono (P' := fun _ => True) (fun A _ _ => trivial)) rfl (by omega) (by omega) ?_; intro p26
      rw [geti_ordI]
      refine Wo.op (Step.move (by conv => lhs; whnf)) ?_; refine Wo.op (Step.move (by conv => lhs; whnf)) ?_; refine Wo.nil ?_; refine Wc.seq ?_; refine Wc.seq ?_; refine Wc.reg ?_; refine Wo.op (Step.move (by conv => lhs; whnf)) ?_; refine Wo.op (Step.move (by conv => lhs; whnf)) ?_; refine Wo.op (Step.neq rfl rfl) ?_; refine Wo.nil ?_; refine Wc.ite rfl (fun hc30 => ?_) (fun hc30 => ?_)
      · refine Wc.exit ?_; refine .inl ⟨rfl, ?_⟩; refine Wc.reg ?_; refine Wo.op (Step.add (b := 1) rfl rfl (by omega)) ?_; refine Wo.op (Step.move (by conv => lhs; whnf)) ?_; refine Wo.nil ?_
        have hre : reps cl (i + 1) = reps cl i := by have := hfi i (by omega); simp only [reps]; rw [if_pos (by omega)]
        rw [← hre] at H
        exact ⟨_, by omega, i + 1, _, _, _, _, rfl, rfl, rfl, rfl, by rw [hre]; rfl, rfl, rfl, rfl, rfl, H, by omega⟩
      · refine Wc.skip ?_; refine Wc.seq ?_; refine Wc.reg ?_; refine Wo.op (Step.move (by conv => lhs; whnf)) ?_; refine Wo.op (Step.add (b := 1) rfl rfl (by omega)) ?_
        have hre : reps cl (i + 1) = reps cl i ++ [i] := by have := hfi i (by omega); simp only [reps]; rw [if_neg (by omega)]
        rw [show (((reps cl i).length : Nat) : Int) + 1 = (((reps cl (i + 1)).length : Nat) : Int) by rw [hre, List.length_append]; rfl]
        refine Wo.op (Step.move (by conv => lhs; whnf)) ?_; refine Wo.nil ?_; refine Wc.seq ?_; refine Wc.reg ?_; refine Wo.op (Step.move (by conv => lhs; whnf)) ?_; refine Wo.nil ?_; refine Wc.seq ?_; refine Wc.seq ?_; refine Wc.reg ?_; refine Wo.op (Step.faddr rfl) ?_; refine Wo.op (Step.load rfl (H.row 0 rfl) (by rfl)) ?_; refine Wo.op (Step.move (by conv => lhs; whnf)) ?_; refine Wo.idxR0 H rfl (hN) hPN rfl (by omega) (by omega) ?_; intro p36 u37 hu37
        have hrl := (hA.row _ (getr_mem (R := R) (q := ((i : Nat) : Int)) (by omega) (by omega))).1
        refine Wo.op (Step.lenSl rfl (hu37.at H hPN)) ?_; refine Wo.op (Step.move (by conv => lhs; whnf)) ?_; refine Wo.nil ?_; refine Wc.mid (fun ρ' s' => ∃ (vR : Value), (ρ' 1 = ptrV s.nextId 0) ∧ (ρ' 2 = ptrV sB1.nextId 0) ∧ (ρ' 3 = v3) ∧ (ρ' 4 = ptrV s3.nextId 0) ∧ (ρ' 5 = .int .i64 (((reps cl (i + 1)).length : Nat) : Int)) ∧ (ρ' 6 = .int .i64 ((i : Nat) : Int)) ∧ (ρ' 8 = vR) ∧ (ρ' 21 = v3) ∧ (ρ' 22 = .int .i64 (((ordI cl).length : Nat) : Int)) ∧ (ρ' 23 = .int .i64 ((i : Nat) : Int)) ∧ (Hs s.nextId s s' [Item.own s.nextId 0 [.int .i64 ((k : Nat) : Int), .int .i64 st, vF, vN], Item.own sB1.nextId 0 [.int .i64 (.ofNat 0), .int .i64 (.ofNat 0), .slice none 0 0, .slice none 0 0], Zc, Item.own s3.nextId 0 [.int .i64 ((k : Nat) : Int), .int .i64 ((cl.getD (faOf st F R).s 0 : Nat) : Int), vF2, vN2], Item.lst 1 vF2 (enB ((reps cl i).map (faOf st F R).f)), Item.rows vN2 vs2 ((reps cl i).map fun p => (List.range k).map fun a => ((cl.getD ((faOf st F R).d p a) 0 : Nat) : Int)) G2, Item.lst 1 vR (enI ((List.range k).map fun b => ((cl.getD ((faOf st F R).d i b) 0 : Nat) : Int)))])) (Wc.block (Wc.loop (fun m ρ' s' => ∃ (a : Nat) (vR : Value), (ρ' 1 = ptrV s.nextId 0) ∧ (ρ' 2 = ptrV sB1.nextId 0) ∧ (ρ' 3 = v3) ∧ (ρ' 4 = ptrV s3.nextId 0) ∧ (ρ' 5 = .int .i64 (((reps cl (i + 1)).length : Nat) : Int)) ∧ (ρ' 6 = .int .i64 ((i : Nat) : Int)) ∧ (ρ' 8 = vR) ∧ (ρ' 21 = v3) ∧ (ρ' 22 = .int .i64 (((ordI cl).length : Nat) : Int)) ∧ (ρ' 23 = .int .i64 ((i : Nat) : Int)) ∧ (ρ' 37 = u37) ∧ (ρ' 38 = .int .i64 ((k : Nat) : Int)) ∧ (ρ' 39 = .int .i64 ((a : Nat) : Int)) ∧ m = k - a ∧ (Hs s.nextId s s' [Item.own s.nextId 0 [.int .i64 ((k : Nat) : Int), .int .i64 st, vF, vN], Item.own sB1.nextId 0 [.int .i64 (.ofNat 0), .int .i64 (.ofNat 0), .slice none 0 0, .slice none 0 0], Zc, Item.own s3.nextId 0 [.int .i64 ((k : Nat) : Int), .int .i64 ((cl.getD (faOf st F R).s 0 : Nat) : Int), vF2, vN2], Item.lst 1 vF2 (enB ((reps cl i).map (faOf st F R).f)), Item.rows vN2 vs2 ((reps cl i).map fun p => (List.range k).map fun a => ((cl.getD ((faOf st F R).d p a) 0 : Nat) : Int)) G2, Item.lst 1 vR (enI ((List.range a).map fun b => ((cl.getD ((faOf st F R).d i b) 0 : Nat) : Int)))]) ∧ (a ≤ k)) ?_ ?_)) ?_
        · have H := H.addNil 1
          exact ⟨_, 0, _, rfl, rfl, rfl, rfl, rfl, rfl, rfl, rfl, rfl, rfl, rfl, congrArg (fun n : Nat => Value.int .i64 (n : Int)) hrl, rfl, rfl, H, by omega⟩
        · intro m2 ρ2 s2 hI
          obtain ⟨a, vR, e1, e2, e3, e4, e5, e6, e8, e21, e22, e23, e37, e38, e39, hm2, H, ha⟩ := hI
          refine Wc.fix (k := 1) e1 ?_; refine Wc.fix (k := 2) e2 ?_; refine Wc.fix (k := 3) e3 ?_; refine Wc.fix (k := 4) e4 ?_; refine Wc.fix (k := 5) e5 ?_; refine Wc.fix (k := 6) e6 ?_; refine Wc.fix (k := 8) e8 ?_; refine Wc.fix (k := 21) e21 ?_; refine Wc.fix (k := 22) e22 ?_; refine Wc.fix (k := 23) e23 ?_; refine Wc.fix (k := 37) e37 ?_; refine Wc.fix (k := 38) e38 ?_; refine Wc.fix (k := 39) e39 ?_
          have hrr : ((List.range a).map fun b => ((cl.getD ((faOf st F R).d i b) 0 : Nat) : Int)).length = a := by simp
          refine Wc.seq ?_; refine Wc.reg ?_; refine Wo.op (Step.lss rfl rfl) ?_; refine Wo.nil ?_; refine Wc.seq ?_; refine Wc.ite rfl (fun hc40 => ?_) (fun hc40 => ?_)
          · refine Wc.skip ?_; refine Wc.seq ?_; refine Wc.block ?_; refine Wc.seq ?_; refine Wc.reg ?_; refine Wo.idxI rfl (hu37.at H hPN) rfl (by omega) (by omega) ?_; intro p41
            have hq := (hA.get (q := i) (a := a) (by omega) (by omega)).2
            rw [hq]
            have hql : (faOf st F R).d i a < F.length := hok.2 i a (by rw [hMn]; omega) (by omega)
            refine Wo.op (Step.move (by conv => lhs; whnf)) ?_; refine Wo.nil ?_; refine Wc.reg ?_; refine Wo.op (Step.move (by conv => lhs; whnf)) ?_; refine Wo.op (Step.move (by conv => lhs; whnf)) ?_; refine Wo.op (Step.move (by conv => lhs; whnf)) ?_; refine Wo.idxI rfl ((hv3 _ (H.ok 2 _ rfl)).mono (P' := fun _ => True) (fun A _ _ => trivial)) rfl (by omega) (by omega) ?_; intro p46
            rw [geti_ordI]
            refine Wo.appI H 6 rfl (by rfl) rfl (by simp) (by omega) ?_; intro p48 v49 sA49 H nA49; refine Wo.op (Step.move (by conv => lhs; whnf)) ?_; refine Wo.nil ?_; refine Wc.reg ?_; refine Wo.op (Step.add (b := 1) rfl rfl (by omega)) ?_; refine Wo.op (Step.move (by conv => lhs; whnf)) ?_; refine Wo.nil ?_
            have e : ((List.range a).map fun b => ((cl.getD ((faOf st F R).d i b) 0 : Nat) : Int)) ++ [((cl.getD ((faOf st F R).d i a) 0 : Nat) : Int)] = ((List.range (a + 1)).map fun b => ((cl.getD ((faOf st F R).d i b) 0 : Nat) : Int)) := by rw [List.range_succ, List.map_append]; rfl
            rw [e] at H
            refine ⟨_, ?_, a + 1, _, rfl, rfl, rfl, rfl, rfl, rfl, rfl, rfl, rfl, rfl, rfl, rfl, rfl, rfl, H, by omega⟩
            omega
          · refine Wc.exit ?_; refine .inl ⟨rfl, ?_⟩
            have hak : a = k := by omega
            subst hak
            exact ⟨_, rfl, rfl, rfl, rfl, rfl, rfl, rfl, rfl, rfl, rfl, H⟩
        · intro ρx2 sx2 hP
          obtain ⟨vR, e1, e2, e3, e4, e5, e6, e8, e21, e22, e23, H⟩ := hP
          show Wc _ _ _ _ _ _ _
          refine Wc.fix (k := 1) e1 ?_; refine Wc.fix (k := 2) e2 ?_; refine Wc.fix (k := 3) e3 ?_; refine Wc.fix (k := 4) e4 ?_; refine Wc.fix (k := 5) e5 ?_; refine Wc.fix (k := 6) e6 ?_; refine Wc.fix (k := 8) e8 ?_; refine Wc.fix (k := 21) e21 ?_; refine Wc.fix (k := 22) e22 ?_; refine Wc.fix (k := 23) e23 ?_; refine Wc.draw ?_; refine Wd.pure rfl (Step.faddr rfl) ?_; refine Wd.read rfl (Step.load rfl (H.row 3 rfl) (by rfl)) ?_; refine Wd.pure rfl (Step.move (by conv => lhs; whnf)) ?_; refine Wd.buildSH H (Fill.cons (by conv => lhs; whnf) (Sl.cellE (H.ints 6 rfl) rfl) (by rfl) (by rfl) (Fill.nil _)) (fun s' hp => by have H := H.pur hp; exact ⟨fun _ => reread rfl (H.row 3 rfl) (by rfl) (Sl.veq (H.rsl 5 rfl)), trivial⟩) ?_; intro sM54 cM54 H nM54; refine Wd.pure rfl (Step.faddr rfl) ?_; refine Wd.read rfl (Step.load rfl (H.row 3 rfl) (by rfl)) ?_; refine Wd.pure rfl (Step.faddr rfl) ?_; refine Wd.read rfl (Step.load rfl (H.row 0 rfl) (by rfl)) ?_; refine Wd.pure rfl (Step.move (by conv => lhs; whnf)) ?_; refine Wd.idxB rfl (hF.at H hPN) rfl (by omega) (by omega) ?_; intro p61; refine Wd.buildSH H (Fill.cons (by conv => lhs; whnf) (by rfl) (by rfl) (by rfl) (Fill.nil _)) (fun s' hp => by have H := H.pur hp; exact ⟨fun _ => (hF.at H hPN), fun _ => reread rfl (H.row 0 rfl) (by rfl) (Sl.veq (hF.at H hPN)), fun _ => reread rfl (H.row 3 rfl) (by rfl) (Sl.veq (H.bools 4 rfl)), fun _ => (H.again 7 rfl (veqs_one (Sl.veq (H.ints 6 rfl)))), fun _ => reread rfl (H.row 3 rfl) (by rfl) (Sl.veq (H.rsl 5 rfl)), trivial⟩) ?_; intro sM63 cM63 H nM63; refine Wd.appGR H 5 7 6 (by decide) rfl (by rfl) (H.ints 6 rfl) rfl (by rfl) (by rfl) (by rfl) (by first | omega | (simp only [List.length_map, List.length_take]; omega) | (simp [rowF, rowP, atF, ordI, preI]; omega)) ?_; intro v55 sA55 F55 H nA55; refine ⟨⟨fun _ => (H.again 8 rfl (veqs_one (veq_bool _))), fun _ => (hF.at H hPN), fun _ => reread rfl (H.row 0 rfl) (by rfl) (Sl.veq (hF.at H hPN)), fun _ => reread rfl (H.row 3 rfl) (by rfl) (Sl.veq (H.bools 4 rfl)), fun h => absurd h (by omega), fun h => absurd h (by omega), trivial⟩, ?_⟩
          refine Wd.pure rfl (Step.faddr rfl) ?_; refine Wd.appGB H 4 8 rfl (by rfl) rfl (by rfl) (by first | omega | (simp only [List.length_map, List.length_take]; omega) | (simp [rowF, rowP, atF, ordI, preI]; omega)) ?_; intro v64 sA64 H nA64; refine ⟨⟨fun h => absurd h (by omega), fun h => absurd h (by omega), fun h => absurd h (by omega), fun h => absurd h (by omega), fun h => absurd h (by omega), fun h => absurd h (by omega), trivial⟩, ?_⟩; refine Wd.storeH H 3 rfl rfl (Sl.cellE (H.rsl 5 rfl) rfl) (by rfl) (Sl.one (H.rsl 5 rfl)) (by rfl) ?_; intro sS1 H nS1; refine ⟨⟨fun h => absurd h (by omega), fun h => absurd h (by omega), fun h => absurd h (by omega), fun h => absurd h (by omega), fun h => absurd h (by omega), fun h => absurd h (by omega), trivial⟩, ?_⟩; refine Wd.pure rfl (Step.faddr rfl) ?_; refine Wd.storeH H 3 rfl rfl (Sl.cellE (H.bools 4 rfl) rfl) (by rfl) (Sl.one (H.bools 4 rfl)) (by rfl) ?_; intro sS2 H nS2; refine ⟨⟨fun h => absurd h (by omega), fun h => absurd h (by omega), fun h => absurd h (by omega), fun h => absurd h (by omega), fun h => absurd h (by omega), fun h => absurd h (by omega), trivial⟩, ?_⟩; refine Wd.nil ?_; refine Wc.reg ?_; refine Wo.op (Step.add (b := 1) rfl rfl (by omega)) ?_; refine Wo.op (Step.move (by conv => lhs; whnf)) ?_; refine Wo.nil ?_
          have hgf : getb F ((i : Nat) : Int) = (faOf st F R).f i := by rw [getb_getD]; rfl
          have e1 : (reps cl (i + 1)).map (faOf st F R).f = (reps cl i).map (faOf st F R).f ++ [(faOf st F R).f i] := by rw [hre, List.map_append]; rfl
          have e2 : (reps cl (i + 1)).map (fun p => (List.range k).map fun a => ((cl.getD ((faOf st F R).d p a) 0 : Nat) : Int)) = (reps cl i).map (fun p => (List.range k).map fun a => ((cl.getD ((faOf st F R).d p a) 0 : Nat) : Int)) ++ [(List.range k).map fun a => ((cl.getD ((faOf st F R).d i a) 0 : Nat) : Int)] := by rw [hre, List.map_append]; rfl
          rw [hgf, ← e1, ← e2] at H
          refine ⟨_, ?_, i + 1, _, _, _, _, rfl, rfl, rfl, rfl, rfl, rfl, rfl, rfl, rfl, H.take 6, by omega⟩
          omega
    · refine Wc.exit ?_; refine .inl ⟨rfl, ?_⟩
      exact ⟨_, _, _, _, rfl, rfl, rfl, by rw [show i = F.length by omega] at H; exact H⟩
  · intro ρx0 sx0 hP
    obtain ⟨vF2, vN2, vs2, G2, e1, e2, e4, H⟩ := hP
    show Wc _ _ _ _ _ _ _
    refine Wc.fix (k := 1) e1 ?_; refine Wc.fix (k := 2) e2 ?_; refine Wc.fix (k := 4) e4 ?_; refine Wc.seq ?_; refine Wc.reg ?_; refine Wo.op (Step.loadN rfl (H.row 3 rfl) (by rfl)) ?_
    -- call ref07_Trim
    refine Wo.call (Wf.mono (ref07_Trim_ok2 (P := fun A => A < sx0.nextId) ((H.bools 4 rfl).mono (fun A h _ => h)) ((H.rows 5 rfl).mono (fun A h _ => h)) (fun A h => h) hqa (by omega) hk) ?_)
    rintro _ s5 ⟨vF3, vN3, vs3, G3, t3, vP, htab3, hA3, hS3, hle3, rfl, hnew3⟩
    have H := H.adds hnew3
    refine Wo.op (Step.move (by conv => lhs; whnf)) ?_; refine Wo.op (Step.extract rfl (by rfl)) ?_; refine Wo.op (Step.extract rfl (by rfl)) ?_; refine Wo.storeH H 3 rfl rfl (by conv => lhs; whnf) (by rfl) (ones_cons (by rfl) (ones_cons (by rfl) (ones_cons (Sl.one (H.bools 6 rfl)) (ones_cons (Sl.one (H.rsl 7 rfl)) (rfl))))) (by rfl) ?_; intro sS3 H nS3; refine Wo.nil ?_; refine Wc.seq ?_; refine Wc.reg ?_; refine Wo.op (Step.loadN rfl (H.row 3 rfl) (by rfl)) ?_; refine Wo.storeH H 1 rfl rfl (by conv => lhs; whnf) (by rfl) (ones_cons (by rfl) (ones_cons (by rfl) (ones_cons (Sl.one (H.bools 6 rfl)) (ones_cons (Sl.one (H.rsl 7 rfl)) (rfl))))) (by rfl) ?_; intro sS4 H nS4; refine Wo.nil ?_; refine Wc.ret ⟨_, Rs.cells rfl (Row.cells (H.row 1 rfl)) (by rfl) (Rs.nil), ?_⟩
    exact ⟨_, _, _, _, t3, hqt _ t3 htab3 (fun _ _ => rfl), hA3, by omega, rfl, H.new2 6 7 (by decide) rfl rfl⟩
end Go.EvK
end

section
set_option linter.unusedVariables false
set_option maxRecDepth 100000
set_option maxHeartbeats 4000000
namespace Go.EvK
open Go Go.Ev Go.EvW Go.Co Go.Aut
theorem ref37_As_ok {s : St} {n i p : Int} (hn : 0 ≤ n ∧ n ≤ 1000000) (hi : 0 ≤ i ∧ i ≤ 1000000) (hp : 1 ≤ p ∧ p ≤ 1000000) :
    Wf kprog n_ref37_As [.int .i64 n, .int .i64 i, .int .i64 p] s (fun v s' => v = .int .i64 (asF n i p) ∧ s = s') := by
  have H := Hs.start s
  refine Wf.of p_ref37_As rfl ?_
  unfold c_ref37_As
  refine Wc.seq ?_; refine Wc.reg ?_; refine Wo.op (Step.move (by conv => lhs; whnf)) ?_; refine Wo.nil ?_; refine Wc.seq ?_; refine Wc.seq ?_; refine Wc.reg ?_; refine Wo.op (Step.move (by conv => lhs; whnf)) ?_; refine Wo.op (Step.move (by conv => lhs; whnf)) ?_; refine Wo.op (Step.lss rfl rfl) ?_; refine Wo.nil ?_; refine Wc.ite rfl (fun hc9 => ?_) (fun hc9 => ?_)
  · refine Wc.seq ?_; refine Wc.reg ?_; refine Wo.op (Step.move (by conv => lhs; whnf)) ?_; refine Wo.op (Step.move (by conv => lhs; whnf)) ?_; refine Wo.nil ?_; refine Wc.ret ⟨_, Rs.tmp (by conv => lhs; whnf) (Rs.nil), ?_⟩
    exact ⟨congrArg (Value.int .i64) (by unfold asF; rw [if_pos hc9]), rfl⟩
  · refine Wc.skip ?_; refine Wc.seq ?_; refine Wc.reg ?_; refine Wo.op (Step.move (by conv => lhs; whnf)) ?_; refine Wo.op (Step.move (by conv => lhs; whnf)) ?_; refine Wo.op (Step.move (by conv => lhs; whnf)) ?_; refine Wo.op (Step.sub rfl rfl (by omega)) ?_; refine Wo.op (Step.move (by conv => lhs; whnf)) ?_; refine Wo.op (Step.rem rfl rfl (by omega)) ?_
    have hm1 := Int.emod_nonneg (n - i) (show p ≠ 0 by omega)
    have hm2 := Int.emod_lt_of_pos (n - i) (show 0 < p by omega)
    refine Wo.op (Step.add rfl rfl (by omega)) ?_; refine Wo.op (Step.move (by conv => lhs; whnf)) ?_; refine Wo.nil ?_; refine Wc.ret ⟨_, Rs.tmp (by conv => lhs; whnf) (Rs.nil), ?_⟩
    exact ⟨congrArg (Value.int .i64) (by unfold asF; rw [if_neg hc9]), rfl⟩
theorem ref37_Size_ok {s : St} {P : Nat → Prop} {vI vP vA : Value} {idx per : List Int} {acc : List Bool} (hI : IsInts s P vI idx) (hP : IsInts s P vP per) (hA : IsBools s P vA acc) (hPN : ∀ A, P A → A < s.nextId) (hg : Good idx per) (hl6 : idx.length ≤ 6) :
    Wf kprog n_ref37_Size [.agg ⟨[vI, vP, vA]⟩] s (fun v s' => (∃ n b, v = .tuple ⟨[.int .i64 n, .bool b]⟩ ∧ ((prod (mods idx per) ≤ 2000 ∧ n = prod (mods idx per) ∧ b = true) ∨ (2000 < prod (mods idx per) ∧ b = false))) ∧ Pur s s') := by
  have H := Hs.start s
  have hl := hg.1
  refine Wf.of p_ref37_Size rfl ?_
  unfold c_ref37_Size
  refine Wc.seq ?_; refine Wc.reg ?_; refine Wo.boxH H (by conv => lhs; whnf) ?_; intro sB1 H nB1; refine Wo.op (Step.move (by conv => lhs; whnf)) ?_; refine Wo.op (Step.move (by conv => lhs; whnf)) ?_; refine Wo.nil ?_; refine Wc.seq ?_; refine Wc.reg ?_; refine Wo.op (Step.move (by conv => lhs; whnf)) ?_; refine Wo.nil ?_; refine Wc.seq ?_; refine Wc.seq ?_; refine Wc.reg ?_; refine Wo.op (Step.faddr rfl) ?_; refine Wo.op (Step.load rfl (H.row 0 rfl) (by rfl)) ?_; refine Wo.op (Step.lenSl rfl (hI.at H hPN)) ?_; refine Wo.op (Step.move (by conv => lhs; whnf)) ?_; refine Wo.nil ?_; refine Wc.mid (fun ρ' s' => (ρ' 4 = .int .i64 (prod (mods idx per))) ∧ (Hs s.nextId s s' [Item.own s.nextId 0 [vI, vP, vA]]) ∧ (prod (mods idx per) ≤ 2000)) (Wc.block (Wc.loop (fun m ρ' s' => ∃ (i : Nat), (ρ' 1 = ptrV s.nextId 0) ∧ (ρ' 4 = .int .i64 (prod ((mods idx per).take i))) ∧ (ρ' 8 = .int .i64 ((idx.length : Nat) : Int)) ∧ (ρ' 9 = .int .i64 ((i : Nat) : Int)) ∧ m = idx.length - i ∧ (Hs s.nextId s s' [Item.own s.nextId 0 [vI, vP, vA]]) ∧ (i ≤ idx.length) ∧ (prod ((mods idx per).take i) ≤ 2000)) ?_ ?_)) ?_
  · exact ⟨_, 0, rfl, rfl, rfl, rfl, rfl, H, by omega, by simp [prod]⟩
  · intro m0 ρ0 s0 hI
    obtain ⟨i, e1, e4, e8, e9, hm0, H, hi, hle⟩ := hI
    refine Wc.fix (k := 1) e1 ?_; refine Wc.fix (k := 4) e4 ?_; refine Wc.fix (k := 8) e8 ?_; refine Wc.fix (k := 9) e9 ?_
    have h1 := (prod_take_le hg i).1
    refine Wc.seq ?_; refine Wc.reg ?_; refine Wo.op (Step.lss rfl rfl) ?_; refine Wo.nil ?_; refine Wc.seq ?_; refine Wc.ite rfl (fun hc10 => ?_) (fun hc10 => ?_)
    · refine Wc.skip ?_; refine Wc.seq ?_; refine Wc.block ?_; refine Wc.seq ?_; refine Wc.reg ?_; refine Wo.op (Step.move (by conv => lhs; whnf)) ?_; refine Wo.op (Step.move (by conv => lhs; whnf)) ?_; refine Wo.nil ?_; refine Wc.seq ?_; refine Wc.seq ?_; refine Wc.reg ?_; refine Wo.op (Step.faddr rfl) ?_; refine Wo.op (Step.load rfl (H.row 0 rfl) (by rfl)) ?_; refine Wo.op (Step.move (by conv => lhs; whnf)) ?_; refine Wo.idxI rfl (hI.at H hPN) rfl (by omega) (by omega) ?_; intro p15
      have hgi := good_get hg (i := i) (by omega)
      refine Wo.op (Step.gtr (b := 2000) rfl rfl) ?_; refine Wo.op (Step.move (by conv => lhs; whnf)) ?_; refine Wo.cases (j := 18) rfl (fun hc18 => ?_) (fun hc18 => ?_)
      · refine Wo.off rfl rfl ?_; refine Wo.off rfl rfl ?_; refine Wo.off rfl rfl ?_; refine Wo.off rfl rfl ?_; refine Wo.off rfl rfl ?_; refine Wo.off rfl rfl ?_; refine Wo.op (Step.pickT rfl (by conv => lhs; whnf)) ?_; refine Wo.nil ?_; refine Wc.yes rfl ?_; refine Wc.seq ?_; refine Wc.reg ?_; refine Wo.op (Step.move (by conv => lhs; whnf)) ?_; refine Wo.op (Step.move (by conv => lhs; whnf)) ?_; refine Wo.nil ?_; refine Wc.ret ⟨_, Rs.tmp (by conv => lhs; whnf) (Rs.tmp (by conv => lhs; whnf) (Rs.nil)), ?_⟩
        exact ⟨⟨_, _, rfl, .inr ⟨by omega, rfl⟩⟩, H.topur⟩
      · refine Wo.on rfl ?_; refine Wo.op (Step.faddr rfl) ?_; refine Wo.on rfl ?_; refine Wo.op (Step.load rfl (H.row 0 rfl) (by rfl)) ?_; refine Wo.on rfl ?_; refine Wo.op (Step.move (by conv => lhs; whnf)) ?_; refine Wo.on2 rfl (by decide) ?_; refine Wo.idxI rfl (hP.at H hPN) rfl (by omega) (by omega) ?_; intro p22; refine Wo.on rfl ?_; refine Wo.op (Step.gtr (b := 2000) rfl rfl) ?_; refine Wo.op (Step.pickF rfl (by conv => lhs; whnf)) ?_; refine Wo.nil ?_; refine Wc.ite rfl (fun hc25 => ?_) (fun hc25 => ?_)
        · refine Wc.seq ?_; refine Wc.reg ?_; refine Wo.op (Step.move (by conv => lhs; whnf)) ?_; refine Wo.op (Step.move (by conv => lhs; whnf)) ?_; refine Wo.nil ?_; refine Wc.ret ⟨_, Rs.tmp (by conv => lhs; whnf) (Rs.tmp (by conv => lhs; whnf) (Rs.nil)), ?_⟩
          exact ⟨⟨_, _, rfl, .inr ⟨by omega, rfl⟩⟩, H.topur⟩
        · refine Wc.skip ?_; refine Wc.seq ?_; refine Wc.draw ?_; refine Wd.pure rfl (Step.move (by conv => lhs; whnf)) ?_; refine Wd.pure rfl (Step.faddr rfl) ?_; refine Wd.read rfl (Step.load rfl (H.row 0 rfl) (by rfl)) ?_; refine Wd.pure rfl (Step.move (by conv => lhs; whnf)) ?_; refine Wd.idxI rfl (hI.at H hPN) rfl (by omega) (by omega) ?_; intro p30; refine Wd.pure rfl (Step.faddr rfl) ?_; refine Wd.read rfl (Step.load rfl (H.row 0 rfl) (by rfl)) ?_; refine Wd.pure rfl (Step.move (by conv => lhs; whnf)) ?_; refine Wd.idxI rfl (hP.at H hPN) rfl (by omega) (by omega) ?_; intro p35
          have hmb := mul_bnd (a := prod ((mods idx per).take i)) (b := geti idx ((i : Nat) : Int) + geti per ((i : Nat) : Int)) (A := 2000) (B := 4000) (by omega) (by omega)
          refine Wd.pure rfl (Step.add rfl rfl (by omega)) ?_; refine Wd.pure rfl (Step.mul rfl rfl (by omega)) ?_; refine Wd.pure rfl (Step.move (by conv => lhs; whnf)) ?_; refine Wd.nil ?_; refine Wc.seq ?_; refine Wc.reg ?_; refine Wo.op (Step.move (by conv => lhs; whnf)) ?_; refine Wo.op (Step.gtr (b := 2000) rfl rfl) ?_; refine Wo.nil ?_; refine Wc.ite rfl (fun hc40 => ?_) (fun hc40 => ?_)
          · refine Wc.seq ?_; refine Wc.reg ?_; refine Wo.op (Step.move (by conv => lhs; whnf)) ?_; refine Wo.op (Step.move (by conv => lhs; whnf)) ?_; refine Wo.nil ?_; refine Wc.ret ⟨_, Rs.tmp (by conv => lhs; whnf) (Rs.tmp (by conv => lhs; whnf) (Rs.nil)), ?_⟩
            exact ⟨⟨_, _, rfl, .inr ⟨by have := (prod_take_le hg (i + 1)).2; rw [prod_step hg (by omega)] at this; omega, rfl⟩⟩, H.topur⟩
          · refine Wc.skip ?_; refine Wc.reg ?_; refine Wo.op (Step.add (b := 1) rfl rfl (by omega)) ?_; refine Wo.op (Step.move (by conv => lhs; whnf)) ?_; refine Wo.nil ?_
            have hps := prod_step hg (i := i) (by omega)
            exact ⟨_, by omega, i + 1, rfl, by rw [hps]; rfl, rfl, rfl, rfl, H, by omega, by rw [hps]; omega⟩
    · refine Wc.exit ?_; refine .inl ⟨rfl, ?_⟩
      have e : i = idx.length := by omega
      subst e
      rw [prod_full hg] at hle
      exact ⟨congrArg (fun l => Value.int .i64 (prod l)) (prod_full hg), H, hle⟩
  · intro ρx0 sx0 hP
    obtain ⟨h4, H, hle⟩ := hP
    show Wc _ _ _ _ _ _ _
    refine Wc.fix (k := 4) h4 ?_; refine Wc.seq ?_; refine Wc.reg ?_; refine Wo.op (Step.move (by conv => lhs; whnf)) ?_; refine Wo.op (Step.move (by conv => lhs; whnf)) ?_; refine Wo.op (Step.move (by conv => lhs; whnf)) ?_; refine Wo.nil ?_; refine Wc.ret ⟨_, Rs.tmp (by conv => lhs; whnf) (Rs.tmp (by conv => lhs; whnf) (Rs.nil)), ?_⟩
    exact ⟨⟨_, _, rfl, .inl ⟨hle, rfl, rfl⟩⟩, H.topur⟩
theorem ref37_At_ok {s : St} {P : Nat → Prop} {vI vP vA : Value} {idx per : List Int} {acc : List Bool} (hI : IsInts s P vI idx) (hP : IsInts s P vP per) (hA : IsBools s P vA acc) (hPN : ∀ A, P A → A < s.nextId) {vD : Value} {ns : List Int} (hD : IsInts s P vD ns) (hg : Good idx per) (hl6 : idx.length ≤ 6) (hpr : prod (mods idx per) ≤ 2000) (hl : ns.length = idx.length) (hn : ∀ n ∈ ns, 0 ≤ n ∧ n ≤ 1000000) :
    Wf kprog n_ref37_At [.agg ⟨[vI, vP, vA]⟩, vD] s (fun v s' => v = .int .i64 (encA idx per ns) ∧ Pur s s') := by
  have H := Hs.start s
  have hlp := hg.1
  refine Wf.of p_ref37_At rfl ?_
  unfold c_ref37_At
  refine Wc.seq ?_; refine Wc.reg ?_; refine Wo.boxH H (by conv => lhs; whnf) ?_; intro sB2 H nB2; refine Wo.op (Step.move (by conv => lhs; whnf)) ?_; refine Wo.nil ?_; refine Wc.seq ?_; refine Wc.reg ?_; refine Wo.op (Step.move (by conv => lhs; whnf)) ?_; refine Wo.nil ?_; refine Wc.seq ?_; refine Wc.seq ?_; refine Wc.reg ?_; refine Wo.op (Step.faddr rfl) ?_; refine Wo.op (Step.load rfl (H.row 0 rfl) (by rfl)) ?_; refine Wo.op (Step.lenSl rfl (hI.at H hPN)) ?_; refine Wo.op (Step.move (by conv => lhs; whnf)) ?_; refine Wo.nil ?_; refine Wc.mid (fun ρ' s' => (ρ' 5 = .int .i64 (encA idx per ns)) ∧ (Hs s.nextId s s' [Item.own s.nextId 0 [vI, vP, vA]])) (Wc.block (Wc.loop (fun m ρ' s' => ∃ (i : Nat), (ρ' 1 = vD) ∧ (ρ' 2 = ptrV s.nextId 0) ∧ (ρ' 5 = .int .i64 (encA (idx.take i) (per.take i) (ns.take i))) ∧ (ρ' 9 = .int .i64 ((idx.length : Nat) : Int)) ∧ (ρ' 10 = .int .i64 ((i : Nat) : Int)) ∧ m = idx.length - i ∧ (Hs s.nextId s s' [Item.own s.nextId 0 [vI, vP, vA]]) ∧ (i ≤ idx.length)) ?_ ?_)) ?_
  · exact ⟨_, 0, rfl, rfl, rfl, rfl, rfl, rfl, H, by omega⟩
  · intro m0 ρ0 s0 hI
    obtain ⟨i, e1, e2, e5, e9, e10, hm0, H, hi⟩ := hI
    refine Wc.fix (k := 1) e1 ?_; refine Wc.fix (k := 2) e2 ?_; refine Wc.fix (k := 5) e5 ?_; refine Wc.fix (k := 9) e9 ?_; refine Wc.fix (k := 10) e10 ?_
    have her := encA_take_range hg hl (fun n h => (hn n h).1) i
    refine Wc.seq ?_; refine Wc.reg ?_; refine Wo.op (Step.lss rfl rfl) ?_; refine Wo.nil ?_; refine Wc.seq ?_; refine Wc.ite rfl (fun hc11 => ?_) (fun hc11 => ?_)
    · refine Wc.skip ?_; refine Wc.seq ?_; refine Wc.block ?_; refine Wc.seq ?_; refine Wc.reg ?_; refine Wo.op (Step.move (by conv => lhs; whnf)) ?_; refine Wo.op (Step.move (by conv => lhs; whnf)) ?_; refine Wo.nil ?_; refine Wc.draw ?_
      have hgi := good_get hg (i := i) (by omega)
      have hni := hn _ (geti_mem (xs := ns) (i := ((i : Nat) : Int)) (by omega) (by omega))
      refine Wd.pure rfl (Step.move (by conv => lhs; whnf)) ?_; refine Wd.pure rfl (Step.faddr rfl) ?_; refine Wd.read rfl (Step.load rfl (H.row 0 rfl) (by rfl)) ?_; refine Wd.pure rfl (Step.move (by conv => lhs; whnf)) ?_; refine Wd.idxI rfl (hI.at H hPN) rfl (by omega) (by omega) ?_; intro p17; refine Wd.pure rfl (Step.faddr rfl) ?_; refine Wd.read rfl (Step.load rfl (H.row 0 rfl) (by rfl)) ?_; refine Wd.pure rfl (Step.move (by conv => lhs; whnf)) ?_; refine Wd.idxI rfl (hP.at H hPN) rfl (by omega) (by omega) ?_; intro p22; refine Wd.pure rfl (Step.add rfl rfl (by omega)) ?_
      have hmb := mul_bnd (a := encA (idx.take i) (per.take i) (ns.take i)) (b := geti idx ((i : Nat) : Int) + geti per ((i : Nat) : Int)) (A := 2000) (B := 2000) (by omega) (by omega)
      refine Wd.pure rfl (Step.mul rfl rfl (by omega)) ?_; refine Wd.pure rfl (Step.move (by conv => lhs; whnf)) ?_; refine Wd.pure rfl (Step.move (by conv => lhs; whnf)) ?_; refine Wd.idxI rfl (hD.at H hPN) rfl (by omega) (by omega) ?_; intro p28; refine Wd.pure rfl (Step.faddr rfl) ?_; refine Wd.read rfl (Step.load rfl (H.row 0 rfl) (by rfl)) ?_; refine Wd.pure rfl (Step.move (by conv => lhs; whnf)) ?_; refine Wd.idxI rfl (hI.at H hPN) rfl (by omega) (by omega) ?_; intro p33; refine Wd.pure rfl (Step.faddr rfl) ?_; refine Wd.read rfl (Step.load rfl (H.row 0 rfl) (by rfl)) ?_; refine Wd.pure rfl (Step.move (by conv => lhs; whnf)) ?_; refine Wd.idxI rfl (hP.at H hPN) rfl (by omega) (by omega) ?_; intro p38
      -- call ref37_As
      refine Wd.call (Wf.mono (ref37_As_ok (n := geti ns ((i : Nat) : Int)) (i := geti idx ((i : Nat) : Int)) (p := geti per ((i : Nat) : Int)) (by omega) (by omega) (by omega)) ?_)
      rintro _ _ ⟨rfl, rfl⟩
      refine ⟨⟨fun h => absurd h (by omega), fun h => absurd h (by omega), fun h => absurd h (by omega), fun h => absurd h (by omega), fun h => absurd h (by omega), fun _ => (hP.at H hPN), fun _ => reread rfl (H.row 0 rfl) (by rfl) (Sl.veq (hP.at H hPN)), fun _ => (hI.at H hPN), fun _ => reread rfl (H.row 0 rfl) (by rfl) (Sl.veq (hI.at H hPN)), trivial⟩, ?_⟩
      have har := asF_range (n := geti ns ((i : Nat) : Int)) (i := geti idx ((i : Nat) : Int)) (p := geti per ((i : Nat) : Int)) (by omega) (by omega) (by omega)
      refine Wd.pure rfl (Step.add rfl rfl (by omega)) ?_; refine Wd.pure rfl (Step.move (by conv => lhs; whnf)) ?_; refine Wd.nil ?_; refine Wc.reg ?_; refine Wo.op (Step.add (b := 1) rfl rfl (by omega)) ?_; refine Wo.op (Step.move (by conv => lhs; whnf)) ?_; refine Wo.nil ?_; refine ⟨_, ?_, i + 1, rfl, rfl, by rw [encA_step hg hl (by omega)]; rfl, rfl, rfl, rfl, H, by omega⟩
      omega
    · refine Wc.exit ?_; refine .inl ⟨rfl, ?_⟩
      exact ⟨by rw [show i = idx.length by omega, List.take_of_length_le (by omega), List.take_of_length_le (by omega), List.take_of_length_le (by omega)]; rfl, H⟩
  · intro ρx0 sx0 hP
    obtain ⟨h5, H⟩ := hP
    show Wc _ _ _ _ _ _ _
    refine Wc.fix (k := 5) h5 ?_; refine Wc.seq ?_; refine Wc.reg ?_; refine Wo.op (Step.move (by conv => lhs; whnf)) ?_; refine Wo.op (Step.move (by conv => lhs; whnf)) ?_; refine Wo.nil ?_; refine Wc.ret ⟨_, Rs.tmp (by conv => lhs; whnf) (Rs.nil), ?_⟩
    exact ⟨rfl, H.topur⟩
theorem ref37_Validate_ok {s : St} {P : Nat → Prop} {vI vP vA : Value} {idx per : List Int} {acc : List Bool} (hI : IsInts s P vI idx) (hP : IsInts s P vP per) (hA : IsBools s P vA acc) (hPN : ∀ A, P A → A < s.nextId) :
    Wf kprog n_ref37_Validate [.agg ⟨[vI, vP, vA]⟩] s (fun v s' => v = .int .i64 (validF idx per acc.length) ∧ Pur s s') := by
  have H := Hs.start s
  refine Wf.of p_ref37_Validate rfl ?_
  unfold c_ref37_Validate
  refine Wc.seq ?_; refine Wc.reg ?_; refine Wo.boxH H (by conv => lhs; whnf) ?_; intro sB1 H nB1; refine Wo.op (Step.move (by conv => lhs; whnf)) ?_; refine Wo.nil ?_; refine Wc.seq ?_; refine Wc.seq ?_; refine Wc.reg ?_; refine Wo.op (Step.faddr rfl) ?_; refine Wo.op (Step.load rfl (H.row 0 rfl) (by rfl)) ?_; refine Wo.op (Step.lenSl rfl (hI.at H hPN)) ?_
  -- call ref01_MayLetters
  refine Wo.call (Wf.mono (ref01_MayLetters_ok) ?_)
  rintro _ _ ⟨rfl, rfl⟩
  refine Wo.op (Step.notD rfl) ?_; refine Wo.nil ?_; refine Wc.ite rfl (fun hc10 => ?_) (fun hc10 => ?_)
  · refine Wc.seq ?_; refine Wc.reg ?_; refine Wo.op (Step.move (by conv => lhs; whnf)) ?_; refine Wo.nil ?_; refine Wc.ret ⟨_, Rs.tmp (by conv => lhs; whnf) (Rs.nil), ?_⟩
    exact ⟨congrArg (Value.int .i64) (by unfold validF; rw [if_pos (by omega)]; rfl), H.topur⟩
  · refine Wc.skip ?_; refine Wc.seq ?_; refine Wc.seq ?_; refine Wc.reg ?_; refine Wo.op (Step.faddr rfl) ?_; refine Wo.op (Step.load rfl (H.row 0 rfl) (by rfl)) ?_; refine Wo.op (Step.lenSl rfl (hP.at H hPN)) ?_; refine Wo.op (Step.faddr rfl) ?_; refine Wo.op (Step.load rfl (H.row 0 rfl) (by rfl)) ?_; refine Wo.op (Step.lenSl rfl (hI.at H hPN)) ?_; refine Wo.op (Step.neq rfl rfl) ?_; refine Wo.nil ?_; refine Wc.ite rfl (fun hc17 => ?_) (fun hc17 => ?_)
    · refine Wc.seq ?_; refine Wc.reg ?_; refine Wo.op (Step.move (by conv => lhs; whnf)) ?_; refine Wo.nil ?_; refine Wc.ret ⟨_, Rs.tmp (by conv => lhs; whnf) (Rs.nil), ?_⟩
      exact ⟨congrArg (Value.int .i64) (by unfold validF; rw [if_neg (by omega), if_pos (by omega)]; rfl), H.topur⟩
    · refine Wc.skip ?_; refine Wc.seq ?_; refine Wc.seq ?_; refine Wc.reg ?_; refine Wo.op (Step.faddr rfl) ?_; refine Wo.op (Step.load rfl (H.row 0 rfl) (by rfl)) ?_; refine Wo.op (Step.lenSl rfl (hI.at H hPN)) ?_; refine Wo.op (Step.move (by conv => lhs; whnf)) ?_; refine Wo.nil ?_; refine Wc.mid (fun ρ' s' => (ρ' 1 = ptrV s.nextId 0) ∧ (Hs s.nextId s s' [Item.own s.nextId 0 [vI, vP, vA]]) ∧ (∀ j, j < idx.length → 0 ≤ geti idx (j : Nat) ∧ 1 ≤ geti per (j : Nat))) (Wc.block (Wc.loop (fun m ρ' s' => ∃ (i : Nat), (ρ' 1 = ptrV s.nextId 0) ∧ (ρ' 20 = .int .i64 ((idx.length : Nat) : Int)) ∧ (ρ' 21 = .int .i64 ((i : Nat) : Int)) ∧ m = idx.length - i ∧ (Hs s.nextId s s' [Item.own s.nextId 0 [vI, vP, vA]]) ∧ (i ≤ idx.length) ∧ (∀ j, j < i → 0 ≤ geti idx (j : Nat) ∧ 1 ≤ geti per (j : Nat))) ?_ ?_)) ?_
      · exact ⟨_, 0, rfl, rfl, rfl, rfl, H, by omega, by intro j hj; omega⟩
      · intro m0 ρ0 s0 hI
        obtain ⟨i, e1, e20, e21, hm0, H, hi, hz⟩ := hI
        refine Wc.fix (k := 1) e1 ?_; refine Wc.fix (k := 20) e20 ?_; refine Wc.fix (k := 21) e21 ?_; refine Wc.seq ?_; refine Wc.reg ?_; refine Wo.op (Step.lss rfl rfl) ?_; refine Wo.nil ?_; refine Wc.seq ?_; refine Wc.ite rfl (fun hc22 => ?_) (fun hc22 => ?_)
        · refine Wc.skip ?_; refine Wc.seq ?_; refine Wc.block ?_; refine Wc.seq ?_; refine Wc.reg ?_; refine Wo.op (Step.move (by conv => lhs; whnf)) ?_; refine Wo.op (Step.move (by conv => lhs; whnf)) ?_; refine Wo.nil ?_; refine Wc.seq ?_; refine Wc.reg ?_; refine Wo.op (Step.faddr rfl) ?_; refine Wo.op (Step.load rfl (H.row 0 rfl) (by rfl)) ?_; refine Wo.op (Step.move (by conv => lhs; whnf)) ?_; refine Wo.idxI rfl (hI.at H hPN) rfl (by omega) (by omega) ?_; intro p27; refine Wo.op (Step.lss (b := 0) rfl rfl) ?_; refine Wo.op (Step.move (by conv => lhs; whnf)) ?_; refine Wo.cases (j := 30) rfl (fun hc30 => ?_) (fun hc30 => ?_)
          · refine Wo.off rfl rfl ?_; refine Wo.off rfl rfl ?_; refine Wo.off rfl rfl ?_; refine Wo.off rfl rfl ?_; refine Wo.off rfl rfl ?_; refine Wo.off rfl rfl ?_; refine Wo.op (Step.pickT rfl (by conv => lhs; whnf)) ?_; refine Wo.nil ?_; refine Wc.yes rfl ?_; refine Wc.seq ?_; refine Wc.reg ?_; refine Wo.op (Step.move (by conv => lhs; whnf)) ?_; refine Wo.nil ?_; refine Wc.ret ⟨_, Rs.tmp (by conv => lhs; whnf) (Rs.nil), ?_⟩
            exact ⟨congrArg (Value.int .i64) (by unfold validF; rw [if_neg (by omega), if_neg (by omega), if_pos ⟨i, by omega, by omega⟩]; rfl), H.topur⟩
          · refine Wo.on rfl ?_; refine Wo.op (Step.faddr rfl) ?_; refine Wo.on rfl ?_; refine Wo.op (Step.load rfl (H.row 0 rfl) (by rfl)) ?_; refine Wo.on rfl ?_; refine Wo.op (Step.move (by conv => lhs; whnf)) ?_; refine Wo.on2 rfl (by decide) ?_; refine Wo.idxI rfl (hP.at H hPN) rfl (by omega) (by omega) ?_; intro p34; refine Wo.on rfl ?_; refine Wo.op (Step.lss (b := 1) rfl rfl) ?_; refine Wo.op (Step.pickF rfl (by conv => lhs; whnf)) ?_; refine Wo.nil ?_; refine Wc.ite rfl (fun hc37 => ?_) (fun hc37 => ?_)
            · refine Wc.seq ?_; refine Wc.reg ?_; refine Wo.op (Step.move (by conv => lhs; whnf)) ?_; refine Wo.nil ?_; refine Wc.ret ⟨_, Rs.tmp (by conv => lhs; whnf) (Rs.nil), ?_⟩
              exact ⟨congrArg (Value.int .i64) (by unfold validF; rw [if_neg (by omega), if_neg (by omega), if_pos ⟨i, by omega, by omega⟩]; rfl), H.topur⟩
            · refine Wc.skip ?_; refine Wc.reg ?_; refine Wo.op (Step.add (b := 1) rfl rfl (by omega)) ?_; refine Wo.op (Step.move (by conv => lhs; whnf)) ?_; refine Wo.nil ?_; refine ⟨_, ?_, i + 1, rfl, rfl, rfl, rfl, H, by omega, by intro j hj; by_cases e : j = i; subst e; omega; exact hz j (by omega)⟩
              omega
        · refine Wc.exit ?_; refine .inl ⟨rfl, ?_⟩
          exact ⟨rfl, H, fun j hj => hz j (by omega)⟩
      · intro ρx0 sx0 hP
        obtain ⟨e1, H, hz⟩ := hP
        show Wc _ _ _ _ _ _ _
        refine Wc.fix (k := 1) e1 ?_
        have hg := good_of (by omega) hz
        have hnb : ¬ ∃ i, i < idx.length ∧ (geti idx (i : Nat) < 0 ∨ geti per (i : Nat) < 1) := fun ⟨j, hj, hh⟩ => by have := hz j hj; omega
        refine Wc.seq ?_; refine Wc.reg ?_; refine Wo.op (Step.loadN rfl (H.row 0 rfl) (by rfl)) ?_
        -- call ref37_Size
        refine Wo.call (Wf.mono (ref37_Size_ok (hI.at H hPN) (hP.at H hPN) (hA.at H hPN) (fun A hA => by have := hPN A hA; have := H.le; omega) hg (by omega)) ?_)
        rintro _ s4 ⟨⟨sz, ok, rfl, hsz⟩, c4⟩
        have H := H.pur c4
        refine Wo.op (Step.move (by conv => lhs; whnf)) ?_; refine Wo.op (Step.extract rfl (by rfl)) ?_; refine Wo.op (Step.extract rfl (by rfl)) ?_; refine Wo.op (Step.move (by conv => lhs; whnf)) ?_; refine Wo.op (Step.move (by conv => lhs; whnf)) ?_; refine Wo.nil ?_; refine Wc.seq ?_; refine Wc.seq ?_; refine Wc.reg ?_; refine Wo.op (Step.move (by conv => lhs; whnf)) ?_; refine Wo.op (Step.not rfl) ?_; refine Wo.nil ?_; refine Wc.iteB rfl (fun hc45 => ?_) (fun hc45 => ?_)
        · have hb : ok = false := by simpa using hc45
          refine Wc.seq ?_; refine Wc.reg ?_; refine Wo.op (Step.move (by conv => lhs; whnf)) ?_; refine Wo.nil ?_; refine Wc.ret ⟨_, Rs.tmp (by conv => lhs; whnf) (Rs.nil), ?_⟩
          exact ⟨congrArg (Value.int .i64) (by unfold validF; rw [if_neg (by omega), if_neg (by omega), if_neg hnb, if_pos (by rcases hsz with h | h; rw [h.2.2] at hb; simp at hb; exact h.1)]; rfl), H.topur⟩
        · have hb : ok = true := by simpa using hc45
          refine Wc.skip ?_; refine Wc.seq ?_; refine Wc.seq ?_; refine Wc.reg ?_; refine Wo.op (Step.faddr rfl) ?_; refine Wo.op (Step.load rfl (H.row 0 rfl) (by rfl)) ?_; refine Wo.op (Step.lenSl rfl (hA.at H hPN)) ?_; refine Wo.op (Step.move (by conv => lhs; whnf)) ?_; refine Wo.op (Step.neq rfl rfl) ?_; refine Wo.nil ?_; refine Wc.ite rfl (fun hc50 => ?_) (fun hc50 => ?_)
          · refine Wc.seq ?_; refine Wc.reg ?_; refine Wo.op (Step.move (by conv => lhs; whnf)) ?_; refine Wo.nil ?_; refine Wc.ret ⟨_, Rs.tmp (by conv => lhs; whnf) (Rs.nil), ?_⟩
            exact ⟨congrArg (Value.int .i64) (by unfold validF; rw [if_neg (by omega), if_neg (by omega), if_neg hnb, if_neg (by rcases hsz with h | h; omega; rw [h.2] at hb; simp at hb), if_pos (by rcases hsz with h | h; omega; rw [h.2] at hb; simp at hb)]; rfl), H.topur⟩
          · refine Wc.skip ?_; refine Wc.seq ?_; refine Wc.reg ?_; refine Wo.op (Step.move (by conv => lhs; whnf)) ?_; refine Wo.nil ?_; refine Wc.ret ⟨_, Rs.tmp (by conv => lhs; whnf) (Rs.nil), ?_⟩
            exact ⟨congrArg (Value.int .i64) (by unfold validF; rw [if_neg (by omega), if_neg (by omega), if_neg hnb, if_neg (by rcases hsz with h | h; omega; rw [h.2] at hb; simp at hb), if_neg (by rcases hsz with h | h; omega; rw [h.2] at hb; simp at hb)]; rfl), H.topur⟩
theorem ref37_Match_ok {s : St} {P : Nat → Prop} {vI vP vA : Value} {idx per : List Int} {acc : List Bool} (hI : IsInts s P vI idx) (hP : IsInts s P vP per) (hA : IsBools s P vA acc) (hPN : ∀ A, P A → A < s.nextId) {w : List UInt8} (hw : w.length < 9223372036854775807) :
    Wf kprog n_ref37_Match [.agg ⟨[vI, vP, vA]⟩, .string ⟨⟨w⟩⟩] s (fun v s' => v = .bool (matchF idx per acc w) ∧ Pur s s') := by
  have H := Hs.start s
  refine Wf.of p_ref37_Match rfl ?_
  unfold c_ref37_Match
  refine Wc.seq ?_; refine Wc.reg ?_; refine Wo.boxH H (by conv => lhs; whnf) ?_; intro sB2 H nB2; refine Wo.op (Step.move (by conv => lhs; whnf)) ?_; refine Wo.nil ?_; refine Wc.seq ?_; refine Wc.seq ?_; refine Wc.reg ?_; refine Wo.op (Step.loadN rfl (H.row 0 rfl) (by rfl)) ?_
  -- call ref37_Validate
  refine Wo.call (Wf.mono (ref37_Validate_ok (hI.at H hPN) (hP.at H hPN) (hA.at H hPN) (fun A hA => by have := hPN A hA; omega)) ?_)
  rintro _ s2 ⟨rfl, c2⟩
  have H := H.pur c2
  refine Wo.op (Step.neq (b := 0) rfl rfl) ?_; refine Wo.op (Step.move (by conv => lhs; whnf)) ?_; refine Wo.cases (j := 10) rfl (fun hc10 => ?_) (fun hc10 => ?_)
  · refine Wo.off rfl rfl ?_; refine Wo.off rfl rfl ?_; refine Wo.off rfl rfl ?_; refine Wo.off rfl rfl ?_; refine Wo.off rfl rfl ?_; refine Wo.off rfl rfl ?_; refine Wo.op (Step.pickT rfl (by conv => lhs; whnf)) ?_; refine Wo.nil ?_; refine Wc.yes rfl ?_; refine Wc.seq ?_; refine Wc.reg ?_; refine Wo.op (Step.move (by conv => lhs; whnf)) ?_; refine Wo.nil ?_; refine Wc.ret ⟨_, Rs.tmp (by conv => lhs; whnf) (Rs.nil), ?_⟩
    exact ⟨congrArg Value.bool (by unfold matchF; rw [decide_eq_false hc10]; rfl), H.topur⟩
  · have hv0 : validF idx per acc.length = 0 := by simpa using hc10
    obtain ⟨hg, hl1, hl6, hpr, hacc⟩ := validF_good hv0
    refine Wo.on rfl ?_; refine Wo.op (Step.move (by conv => lhs; whnf)) ?_; refine Wo.on rfl ?_; refine Wo.op (Step.faddr rfl) ?_; refine Wo.on rfl ?_; refine Wo.op (Step.load rfl (H.row 0 rfl) (by rfl)) ?_; refine Wo.on rfl ?_; refine Wo.op (Step.lenSl rfl (hI.at H hPN)) ?_; refine Wo.on rfl ?_
    -- call ref01_Valid
    refine Wo.call (Wf.mono (ref01_Valid_ok (w := w) (k := ((idx.length : Nat) : Int)) (by omega) hw) ?_)
    rintro _ _ ⟨rfl, rfl⟩
    refine Wo.on rfl ?_; refine Wo.op (Step.notD rfl) ?_; refine Wo.op (Step.pickF rfl (by conv => lhs; whnf)) ?_; refine Wo.nil ?_; refine Wc.ite rfl (fun hc17 => ?_) (fun hc17 => ?_)
    · refine Wc.seq ?_; refine Wc.reg ?_; refine Wo.op (Step.move (by conv => lhs; whnf)) ?_; refine Wo.nil ?_; refine Wc.ret ⟨_, Rs.tmp (by conv => lhs; whnf) (Rs.nil), ?_⟩
      exact ⟨congrArg Value.bool (by unfold matchF; rw [decide_eq_false hc17]; simp), H.topur⟩
    · have hwk : WordOk w idx.length := by simpa using hc17
      have hwl := hwk.2.2.1
      refine Wc.skip ?_; refine Wc.seq ?_; refine Wc.reg ?_; refine Wo.op (Step.faddr rfl) ?_; refine Wo.op (Step.load rfl (H.row 0 rfl) (by rfl)) ?_; refine Wo.op (Step.lenSl rfl (hI.at H hPN)) ?_; refine Wo.mkSliceH H rfl rfl (by omega) (by omega) (zeroI _) ?_; intro sM21 H nM21
      rw [show enI (List.replicate ((idx.length : Nat) : Int).toNat 0) = enI (cnts idx.length (w.take 0)) by rw [List.take_zero, cnts_nil]; rfl] at H
      refine Wo.op (Step.move (by conv => lhs; whnf)) ?_; refine Wo.nil ?_; refine Wc.seq ?_; refine Wc.seq ?_; refine Wc.reg ?_; refine Wo.op (Step.move (by conv => lhs; whnf)) ?_; refine Wo.nil ?_; refine Wc.mid (fun ρ' s' => (ρ' 2 = ptrV s.nextId 0) ∧ (ρ' 5 = .slice (some ⟨s2.nextId, 0, none⟩) idx.length idx.length) ∧ (Hs s.nextId s s' [Item.own s.nextId 0 [vI, vP, vA], Item.own s2.nextId 1 (enI (cnts idx.length w))])) (Wc.block (Wc.loop (fun m ρ' s' => ∃ (i : Nat), (ρ' 1 = .string ⟨⟨w⟩⟩) ∧ (ρ' 2 = ptrV s.nextId 0) ∧ (ρ' 5 = .slice (some ⟨s2.nextId, 0, none⟩) idx.length idx.length) ∧ (ρ' 6 = .int .i64 ((i : Nat) : Int)) ∧ m = w.length - i ∧ (Hs s.nextId s s' [Item.own s.nextId 0 [vI, vP, vA], Item.own s2.nextId 1 (enI (cnts idx.length (w.take i)))]) ∧ (i ≤ w.length)) ?_ ?_)) ?_
      · exact ⟨_, 0, rfl, rfl, rfl, rfl, rfl, H, by omega⟩
      · intro m0 ρ0 s0 hI
        obtain ⟨i, e1, e2, e5, e6, hm0, H, hi⟩ := hI
        refine Wc.fix (k := 1) e1 ?_; refine Wc.fix (k := 2) e2 ?_; refine Wc.fix (k := 5) e5 ?_; refine Wc.fix (k := 6) e6 ?_
        have hcl := cnts_length idx.length (w.take i)
        have hcb0 := cnts_le idx.length (w.take i)
        refine Wc.seq ?_; refine Wc.seq ?_; refine Wc.reg ?_; refine Wo.op (Step.move (by conv => lhs; whnf)) ?_; refine Wo.op (Step.move (by conv => lhs; whnf)) ?_; refine Wo.op (Step.lenStrG rfl) ?_; refine Wo.op (Step.lss rfl rfl) ?_; refine Wo.nil ?_; refine Wc.ite rfl (fun hc25 => ?_) (fun hc25 => ?_)
        · refine Wc.skip ?_; refine Wc.seq ?_; refine Wc.block ?_; refine Wc.reg ?_; refine Wo.op (Step.move (by conv => lhs; whnf)) ?_; refine Wo.op (Step.move (by conv => lhs; whnf)) ?_; refine Wo.op (Step.move (by conv => lhs; whnf)) ?_
          have hch := hwk.2.2.2 _ (getu_mem (w := w) (i := i) (by omega) (by omega))
          have hlt := getu_lt w i
          refine Wo.op (Step.idxStrG rfl rfl (by omega) (by omega)) ?_; refine Wo.op (Step.sub8 (b := 97) rfl rfl (by omega)) ?_; refine Wo.idxI rfl (H.orow 1 (by rfl) (by first | rfl | omega)) rfl (by omega) (by omega) ?_; intro p33
          have hgm := geti_mem (xs := cnts idx.length (w.take i)) (i := (((getu w ((i : Nat) : Int)).toNat : Nat) : Int) - 97) (by omega) (by omega)
          have hgb := hcb0 _ hgm
          have hgb2 := cnts_nonneg _ _ _ hgm
          have htl : (w.take i).length ≤ 2048 := by rw [List.length_take]; omega
          refine Wo.op (Step.add (b := 1) rfl rfl (by omega)) ?_; refine Wo.setI H 1 rfl rfl (by rfl) (by omega) (by omega) (by omega) rfl ?_ (by simp); intro p36 sT36 H nT36; refine Wo.nil ?_; refine Wc.reg ?_; refine Wo.op (Step.move (by conv => lhs; whnf)) ?_; refine Wo.op (Step.add (b := 1) rfl rfl (by omega)) ?_; refine Wo.op (Step.move (by conv => lhs; whnf)) ?_; refine Wo.nil ?_
          obtain ⟨a, ha⟩ : ∃ a : Nat, (getu w i).toNat = 97 + a := ⟨(getu w i).toNat - 97, by omega⟩
          rw [show (((getu w ((i : Nat) : Int)).toNat : Nat) : Int) - 97 = (a : Int) by omega, Int.toNat_natCast, ← cnts_snoc ha, ← take_getu (by omega)] at H
          refine ⟨_, ?_, i + 1, rfl, rfl, rfl, rfl, rfl, H, by omega⟩
          omega
        · refine Wc.exit ?_; refine .inl ⟨rfl, ?_⟩
          exact ⟨rfl, rfl, by rw [List.take_of_length_le (by omega)] at H; exact H⟩
      · intro ρx0 sx0 hP
        obtain ⟨e2, e5, H⟩ := hP
        show Wc _ _ _ _ _ _ _
        refine Wc.fix (k := 2) e2 ?_; refine Wc.fix (k := 5) e5 ?_
        have hr := encA_range (ns := cnts idx.length w) hg (cnts_nonneg _ _) (cnts_length _ _)
        have hcb : ∀ n ∈ cnts idx.length w, 0 ≤ n ∧ n ≤ 1000000 := fun n hn => ⟨cnts_nonneg _ _ n hn, by have := cnts_le idx.length w n hn; omega⟩
        refine Wc.seq ?_; refine Wc.draw ?_; refine Wd.pure rfl (Step.faddr rfl) ?_; refine Wd.read rfl (Step.load rfl (H.row 0 rfl) (by rfl)) ?_; refine Wd.read rfl (Step.loadN rfl (H.row 0 rfl) (by rfl)) ?_; refine Wd.pure rfl (Step.move (by conv => lhs; whnf)) ?_
        -- call ref37_At
        refine Wd.call (Wf.mono (ref37_At_ok (P := fun A => A < sx0.nextId) ((hI.at H hPN).mono (fun A h _ => h)) ((hP.at H hPN).mono (fun A h _ => h)) ((hA.at H hPN).mono (fun A h _ => h)) (fun A h => h) ((H.orow 1 (by rfl) (by rw [cnts_length])).mono (fun A h _ => h)) hg hl6 hpr (cnts_length _ _) hcb) ?_)
        rintro _ s5 ⟨rfl, c5⟩
        have H := H.pur c5
        refine ⟨⟨fun h => absurd h (by omega), fun _ => reread rfl (H.row 0 rfl) (by rfl) (Sl.veq (hA.at H hPN)), trivial⟩, ?_⟩; refine Wd.idxB rfl (hA.at H hPN) rfl (by omega) (by omega) ?_; intro p42; refine Wd.pure rfl (Step.move (by conv => lhs; whnf)) ?_; refine Wd.nil ?_; refine Wc.ret ⟨_, Rs.tmp (by conv => lhs; whnf) (Rs.nil), ?_⟩
        exact ⟨congrArg Value.bool (by unfold matchF; rw [decide_eq_true hv0, decide_eq_true hwk]; rfl), H.topur⟩
end Go.EvK
end

section
set_option linter.unusedVariables false
set_option maxRecDepth 100000
set_option maxHeartbeats 4000000
namespace Go.EvK
open Go Go.Ev Go.EvW Go.Co Go.Aut
theorem counting_Dfa_ok {s : St} {P : Nat → Prop} {vI vP vA : Value} {idx per : List Int} {acc : List Bool} (hI : IsInts s P vI idx) (hP : IsInts s P vP per) (hA : IsBools s P vA acc) (hPN : ∀ A, P A → A < s.nextId) :
    Wf kprog n_counting_Dfa [.agg ⟨[vI, vP, vA]⟩] s (fun v s' => DfaC idx per acc s s' v) := by
  have H := Hs.start s
  refine Wf.of p_counting_Dfa rfl ?_
  unfold c_counting_Dfa
  refine Wc.seq ?_; refine Wc.reg ?_; refine Wo.boxH H (by conv => lhs; whnf) ?_; intro sB1 H nB1; refine Wo.allocH H ?_; intro sB2 H nB2; refine Wo.op (Step.move (by conv => lhs; whnf)) ?_; refine Wo.nil ?_; refine Wc.seq ?_; refine Wc.seq ?_; refine Wc.reg ?_; refine Wo.op (Step.loadN rfl (H.row 0 rfl) (by rfl)) ?_
  -- call counting_Validate
  refine Wo.call (Wf.mono (counting_Validate_ok (hI.at H hPN) (hP.at H hPN) (hA.at H hPN)) ?_)
  rintro _ s3 ⟨rfl, c3⟩
  have H := H.pur c3
  refine Wo.op (Step.move (by conv => lhs; whnf)) ?_; refine Wo.nil ?_; refine Wc.seq ?_; refine Wc.reg ?_; refine Wo.op (Step.move (by conv => lhs; whnf)) ?_; refine Wo.op (Step.neq (b := 0) rfl rfl) ?_; refine Wo.nil ?_; refine Wc.ite rfl (fun hc12 => ?_) (fun hc12 => ?_)
  · refine Wc.seq ?_; refine Wc.reg ?_; refine Wo.op (Step.buildF (Fill.nil _)) ?_; refine Wo.op (Step.move (by conv => lhs; whnf)) ?_; refine Wo.storeH H 1 rfl rfl (by conv => lhs; whnf) (by rfl) (ones_cons (by rfl) (ones_cons (by rfl) (ones_cons (by rfl) (ones_cons (by rfl) (rfl))))) (by rfl) ?_; intro sS0 H nS0; refine Wo.op (Step.move (by conv => lhs; whnf)) ?_; refine Wo.nil ?_; refine Wc.ret ⟨_, Rs.cells rfl (Row.cells (H.row 1 rfl)) (by rfl) (Rs.tmp (by conv => lhs; whnf) (Rs.nil)), ?_⟩
    exact .inl ⟨hc12, rfl, H.topur⟩
  · have hv0 : validF idx per acc.length = 0 := Classical.byContradiction hc12
    obtain ⟨hg, hl1, hl6, hpr, hacc⟩ := validF_good hv0
    refine Wc.skip ?_; refine Wc.seq ?_; refine Wc.reg ?_; refine Wo.op (Step.faddr rfl) ?_; refine Wo.op (Step.load rfl (H.row 0 rfl) (by rfl)) ?_; refine Wo.op (Step.lenSl rfl (hI.at H hPN)) ?_; refine Wo.op (Step.faddr rfl) ?_; refine Wo.op (Step.load rfl (H.row 0 rfl) (by rfl)) ?_; refine Wo.op (Step.buildF (Fill.cons (by conv => lhs; whnf) (by rfl) (by rfl) (by rfl) (Fill.cons (by conv => lhs; whnf) (Sl.cellE (hA.at H hPN) rfl) (by rfl) (by rfl) (Fill.nil _)))) ?_; refine Wo.allocH H ?_; intro sB5 H nB5; refine Wo.storeH H 2 rfl rfl (by conv => lhs; whnf) (by rfl) (ones_cons (by rfl) (ones_cons (by rfl) (ones_cons (Sl.one (hA.at H hPN)) (ones_cons (by rfl) (rfl))))) (by rfl) ?_; intro sS1 H nS1
    have H := H.addRows
    refine Wo.nil ?_; refine Wc.seq ?_; refine Wc.seq ?_; refine Wc.reg ?_; refine Wo.op (Step.faddr rfl) ?_; refine Wo.op (Step.load rfl (H.row 0 rfl) (by rfl)) ?_; refine Wo.op (Step.lenSl rfl (hA.at H hPN)) ?_; refine Wo.op (Step.move (by conv => lhs; whnf)) ?_; refine Wo.nil ?_; refine Wc.mid (fun ρ' s' => ∃ (vN' : Value) (vs' : List Value) (G : List Nat), (ρ' 2 = ptrV sB1.nextId 0) ∧ (ρ' 5 = ptrV s3.nextId 0) ∧ (Hs s.nextId s s' [Item.own s.nextId 0 [vI, vP, vA], Item.own sB1.nextId 0 [.int .i64 (.ofNat 0), .int .i64 (.ofNat 0), .slice none 0 0, .slice none 0 0], Item.own s3.nextId 0 [.int .i64 ((idx.length : Nat) : Int), .int .i64 (.ofNat 0), vA, vN'], Item.rows vN' vs' (nextRows idx per acc.length) G])) (Wc.block (Wc.loop (fun m ρ' s' => ∃ (i : Nat) (vN' : Value) (vs' : List Value) (G : List Nat), (ρ' 1 = ptrV s.nextId 0) ∧ (ρ' 2 = ptrV sB1.nextId 0) ∧ (ρ' 5 = ptrV s3.nextId 0) ∧ (ρ' 23 = .int .i64 ((acc.length : Nat) : Int)) ∧ (ρ' 24 = .int .i64 ((i : Nat) : Int)) ∧ m = acc.length - i ∧ (Hs s.nextId s s' [Item.own s.nextId 0 [vI, vP, vA], Item.own sB1.nextId 0 [.int .i64 (.ofNat 0), .int .i64 (.ofNat 0), .slice none 0 0, .slice none 0 0], Item.own s3.nextId 0 [.int .i64 ((idx.length : Nat) : Int), .int .i64 (.ofNat 0), vA, vN'], Item.rows vN' vs' (nextRows idx per i) G]) ∧ (i ≤ acc.length)) ?_ ?_)) ?_
    · exact ⟨_, 0, .slice none 0 0, [], [], rfl, rfl, rfl, rfl, rfl, rfl, H, by omega⟩
    · intro m0 ρ0 s0 hI
      obtain ⟨i, vN', vs', G, e1, e2, e5, e23, e24, hm0, H, hi⟩ := hI
      refine Wc.fix (k := 1) e1 ?_; refine Wc.fix (k := 2) e2 ?_; refine Wc.fix (k := 5) e5 ?_; refine Wc.fix (k := 23) e23 ?_; refine Wc.fix (k := 24) e24 ?_
      have hrl : (nextRows idx per i).length = i := by simp [nextRows]
      refine Wc.seq ?_; refine Wc.reg ?_; refine Wo.op (Step.lss rfl rfl) ?_; refine Wo.nil ?_; refine Wc.seq ?_; refine Wc.ite rfl (fun hc25 => ?_) (fun hc25 => ?_)
      · refine Wc.skip ?_; refine Wc.seq ?_; refine Wc.block ?_; refine Wc.seq ?_; refine Wc.reg ?_; refine Wo.op (Step.move (by conv => lhs; whnf)) ?_; refine Wo.op (Step.move (by conv => lhs; whnf)) ?_; refine Wo.nil ?_; refine Wc.seq ?_; refine Wc.reg ?_; refine Wo.op (Step.faddr rfl) ?_; refine Wo.op (Step.load rfl (H.row 0 rfl) (by rfl)) ?_; refine Wo.op (Step.lenSl rfl (hI.at H hPN)) ?_; refine Wo.mkSliceH H rfl rfl (by omega) (by omega) (zeroI _) ?_; intro sM30 H nM30
        rw [show enI (List.replicate ((idx.length : Nat) : Int).toNat 0) = enI (preZ (fun b => nextF idx per ((i : Nat) : Int) ((b : Nat) : Int)) idx.length 0) by rw [preZ_zero]; rfl] at H
        refine Wo.op (Step.move (by conv => lhs; whnf)) ?_; refine Wo.nil ?_; refine Wc.seq ?_; refine Wc.seq ?_; refine Wc.reg ?_; refine Wo.op (Step.move (by conv => lhs; whnf)) ?_; refine Wo.op (Step.lenS rfl) ?_; refine Wo.op (Step.move (by conv => lhs; whnf)) ?_; refine Wo.nil ?_; refine Wc.mid (fun ρ' s' => (ρ' 1 = ptrV s.nextId 0) ∧ (ρ' 2 = ptrV sB1.nextId 0) ∧ (ρ' 5 = ptrV s3.nextId 0) ∧ (ρ' 6 = .int .i64 ((i : Nat) : Int)) ∧ (ρ' 7 = .slice (some ⟨s0.nextId, 0, none⟩) idx.length idx.length) ∧ (ρ' 23 = .int .i64 ((acc.length : Nat) : Int)) ∧ (ρ' 24 = .int .i64 ((i : Nat) : Int)) ∧ (Hs s.nextId s s' [Item.own s.nextId 0 [vI, vP, vA], Item.own sB1.nextId 0 [.int .i64 (.ofNat 0), .int .i64 (.ofNat 0), .slice none 0 0, .slice none 0 0], Item.own s3.nextId 0 [.int .i64 ((idx.length : Nat) : Int), .int .i64 (.ofNat 0), vA, vN'], Item.rows vN' vs' (nextRows idx per i) G, Item.own s0.nextId 1 (enI (nextR idx per i))])) (Wc.block (Wc.loop (fun m ρ' s' => ∃ (a : Nat), (ρ' 1 = ptrV s.nextId 0) ∧ (ρ' 2 = ptrV sB1.nextId 0) ∧ (ρ' 5 = ptrV s3.nextId 0) ∧ (ρ' 6 = .int .i64 ((i : Nat) : Int)) ∧ (ρ' 7 = .slice (some ⟨s0.nextId, 0, none⟩) idx.length idx.length) ∧ (ρ' 23 = .int .i64 ((acc.length : Nat) : Int)) ∧ (ρ' 24 = .int .i64 ((i : Nat) : Int)) ∧ (ρ' 32 = .int .i64 ((idx.length : Nat) : Int)) ∧ (ρ' 33 = .int .i64 ((a : Nat) : Int)) ∧ m = idx.length - a ∧ (Hs s.nextId s s' [Item.own s.nextId 0 [vI, vP, vA], Item.own sB1.nextId 0 [.int .i64 (.ofNat 0), .int .i64 (.ofNat 0), .slice none 0 0, .slice none 0 0], Item.own s3.nextId 0 [.int .i64 ((idx.length : Nat) : Int), .int .i64 (.ofNat 0), vA, vN'], Item.rows vN' vs' (nextRows idx per i) G, Item.own s0.nextId 1 (enI (preZ (fun b => nextF idx per ((i : Nat) : Int) ((b : Nat) : Int)) idx.length a))]) ∧ (a ≤ idx.length)) ?_ ?_)) ?_
        · exact ⟨_, 0, rfl, rfl, rfl, rfl, rfl, rfl, rfl, rfl, rfl, rfl, H, by omega⟩
        · intro m2 ρ2 s2 hI
          obtain ⟨a, e1, e2, e5, e6, e7, e23, e24, e32, e33, hm2, H, ha⟩ := hI
          refine Wc.fix (k := 1) e1 ?_; refine Wc.fix (k := 2) e2 ?_; refine Wc.fix (k := 5) e5 ?_; refine Wc.fix (k := 6) e6 ?_; refine Wc.fix (k := 7) e7 ?_; refine Wc.fix (k := 23) e23 ?_; refine Wc.fix (k := 24) e24 ?_; refine Wc.fix (k := 32) e32 ?_; refine Wc.fix (k := 33) e33 ?_
          have hzl := preZ_length (fun b => nextF idx per ((i : Nat) : Int) ((b : Nat) : Int)) idx.length a
          refine Wc.seq ?_; refine Wc.reg ?_; refine Wo.op (Step.lss rfl rfl) ?_; refine Wo.nil ?_; refine Wc.seq ?_; refine Wc.ite rfl (fun hc34 => ?_) (fun hc34 => ?_)
          · refine Wc.skip ?_; refine Wc.seq ?_; refine Wc.block ?_; refine Wc.seq ?_; refine Wc.reg ?_; refine Wo.op (Step.move (by conv => lhs; whnf)) ?_; refine Wo.op (Step.move (by conv => lhs; whnf)) ?_; refine Wo.nil ?_; refine Wc.reg ?_; refine Wo.op (Step.move (by conv => lhs; whnf)) ?_; refine Wo.op (Step.move (by conv => lhs; whnf)) ?_; refine Wo.op (Step.loadN rfl (H.row 0 rfl) (by rfl)) ?_; refine Wo.op (Step.move (by conv => lhs; whnf)) ?_; refine Wo.op (Step.move (by conv => lhs; whnf)) ?_
            -- call counting_next
            refine Wo.call (Wf.mono (counting_next_ok (at' := ((i : Nat) : Int)) (a := ((a : Nat) : Int)) (hI.at H hPN) (hP.at H hPN) hg hl6 hpr (by omega) (by omega)) ?_)
            rintro _ s5 ⟨rfl, c5⟩
            have H := H.pur c5
            refine Wo.setI H 4 rfl rfl (by rfl) (by omega) (by omega) (by omega) rfl ?_ (by simp); intro p42 sT42 H nT42; refine Wo.nil ?_; refine Wc.reg ?_; refine Wo.op (Step.add (b := 1) rfl rfl (by omega)) ?_; refine Wo.op (Step.move (by conv => lhs; whnf)) ?_; refine Wo.nil ?_
            rw [Int.toNat_natCast, show nextF idx per ((i : Nat) : Int) ((a : Nat) : Int) = (fun b => nextF idx per ((i : Nat) : Int) ((b : Nat) : Int)) a from rfl, preZ_set] at H
            refine ⟨_, ?_, a + 1, rfl, rfl, rfl, rfl, rfl, rfl, rfl, rfl, rfl, rfl, H, by omega⟩
            omega
          · refine Wc.exit ?_; refine .inl ⟨rfl, ?_⟩
            have hak : a = idx.length := by omega
            subst hak
            exact ⟨rfl, rfl, rfl, rfl, rfl, rfl, rfl, by rw [preZ_full] at H; exact H⟩
        · intro ρx2 sx2 hP
          obtain ⟨e1, e2, e5, e6, e7, e23, e24, H⟩ := hP
          show Wc _ _ _ _ _ _ _
          refine Wc.fix (k := 1) e1 ?_; refine Wc.fix (k := 2) e2 ?_; refine Wc.fix (k := 5) e5 ?_; refine Wc.fix (k := 6) e6 ?_; refine Wc.fix (k := 7) e7 ?_; refine Wc.fix (k := 23) e23 ?_; refine Wc.fix (k := 24) e24 ?_
          have hnl : (nextR idx per i).length = idx.length := by simp [nextR]
          refine Wc.reg ?_; refine Wo.op (Step.faddr rfl) ?_; refine Wo.op (Step.load rfl (H.row 2 rfl) (by rfl)) ?_; refine Wo.op (Step.move (by conv => lhs; whnf)) ?_; refine Wo.appRowH H 3 4 (by decide) rfl (by rfl) (H.orow 4 (by rfl) (by first | rfl | omega)) rfl (by rfl) (by rfl) (by simp) (by omega) ?_; intro p47 v48 sA48 F48 H nA48; refine Wo.op (Step.faddr rfl) ?_; refine Wo.storeH H 2 rfl rfl (Sl.cellE (H.rsl 3 rfl) rfl) (by rfl) (Sl.one (H.rsl 3 rfl)) (by rfl) ?_; intro sS2 H nS2; refine Wo.nil ?_; refine Wc.reg ?_; refine Wo.op (Step.add (b := 1) rfl rfl (by omega)) ?_; refine Wo.op (Step.move (by conv => lhs; whnf)) ?_; refine Wo.nil ?_
          rw [nextRows_snoc] at H
          refine ⟨_, ?_, i + 1, _, _, _, rfl, rfl, rfl, rfl, rfl, rfl, H.take 4, by omega⟩
          omega
      · refine Wc.exit ?_; refine .inl ⟨rfl, ?_⟩
        exact ⟨_, _, _, rfl, rfl, by rw [show i = acc.length by omega] at H; exact H⟩
    · intro ρx0 sx0 hP
      obtain ⟨vN', vs', G, e2, e5, H⟩ := hP
      show Wc _ _ _ _ _ _ _
      refine Wc.fix (k := 2) e2 ?_; refine Wc.fix (k := 5) e5 ?_; refine Wc.seq ?_; refine Wc.reg ?_; refine Wo.op (Step.loadN rfl (H.row 2 rfl) (by rfl)) ?_
      -- call machine_DFA
      refine Wo.call (Wf.mono (machine_DFA_ok (P := fun A => A < sx0.nextId) ((hA.at H hPN).mono (fun A h _ => h)) ((H.rows 3 rfl).mono (fun A h _ => h)) (fun A h => h) (nextRows_ok hg hacc) (by omega) ⟨hl1, hl6⟩) ?_)
      rintro _ s6 ⟨t, hmin, hA2, hh⟩
      rcases hh with ⟨hlong, rfl, c6⟩ | ⟨hshort, vF3, vN3, vs3, G3, rfl, hnew⟩
      · have H := H.pur c6
        refine Wo.op (Step.extract rfl (by rfl)) ?_; refine Wo.op (Step.extract rfl (by rfl)) ?_; refine Wo.storeH H 1 rfl rfl (by conv => lhs; whnf) (by rfl) (by rfl) (by rfl) ?_; intro sS3 H nS3; refine Wo.op (Step.move (by conv => lhs; whnf)) ?_; refine Wo.nil ?_; refine Wc.ret ⟨_, Rs.cells rfl (Row.cells (H.row 1 rfl)) (by rfl) (Rs.tmp (by conv => lhs; whnf) (Rs.nil)), ?_⟩
        exact .inr ⟨hv0, t, hmin, hA2, .inl ⟨hlong, rfl, H.topur⟩⟩
      have H := H.adds hnew
      refine Wo.op (Step.extract rfl (by rfl)) ?_; refine Wo.op (Step.extract rfl (by rfl)) ?_; refine Wo.storeH H 1 rfl rfl (by conv => lhs; whnf) (by rfl) (ones_cons (by rfl) (ones_cons (by rfl) (ones_cons (Sl.one (H.bools 4 rfl)) (ones_cons (Sl.one (H.rsl 5 rfl)) (rfl))))) (by rfl) ?_; intro sS3 H nS3; refine Wo.op (Step.move (by conv => lhs; whnf)) ?_; refine Wo.nil ?_; refine Wc.ret ⟨_, Rs.cells rfl (Row.cells (H.row 1 rfl)) (by rfl) (Rs.tmp (by conv => lhs; whnf) (Rs.nil)), ?_⟩
      exact .inr ⟨hv0, t, hmin, hA2, .inr ⟨hshort, _, _, _, _, rfl, H.new2 4 5 (by decide) rfl rfl⟩⟩
theorem ref37_Dfa_ok {s : St} {P : Nat → Prop} {vI vP vA : Value} {idx per : List Int} {acc : List Bool} (hI : IsInts s P vI idx) (hP : IsInts s P vP per) (hA : IsBools s P vA acc) (hPN : ∀ A, P A → A < s.nextId) :
    Wf kprog n_ref37_Dfa [.agg ⟨[vI, vP, vA]⟩] s (fun v s' => DfaC idx per acc s s' v) := by
  have H := Hs.start s
  refine Wf.of p_ref37_Dfa rfl ?_
  unfold c_ref37_Dfa
  refine Wc.seq ?_; refine Wc.reg ?_; refine Wo.boxH H (by conv => lhs; whnf) ?_; intro sB1 H nB1; refine Wo.allocH H ?_; intro sB2 H nB2; refine Wo.op (Step.move (by conv => lhs; whnf)) ?_; refine Wo.nil ?_; refine Wc.seq ?_; refine Wc.seq ?_; refine Wc.reg ?_; refine Wo.op (Step.loadN rfl (H.row 0 rfl) (by rfl)) ?_
  -- call ref37_Validate
  refine Wo.call (Wf.mono (ref37_Validate_ok (hI.at H hPN) (hP.at H hPN) (hA.at H hPN) (fun A hA => by have := hPN A hA; omega)) ?_)
  rintro _ s3 ⟨rfl, c3⟩
  have H := H.pur c3
  refine Wo.op (Step.move (by conv => lhs; whnf)) ?_; refine Wo.nil ?_; refine Wc.seq ?_; refine Wc.reg ?_; refine Wo.op (Step.move (by conv => lhs; whnf)) ?_; refine Wo.op (Step.neq (b := 0) rfl rfl) ?_; refine Wo.nil ?_; refine Wc.ite rfl (fun hc18 => ?_) (fun hc18 => ?_)
  · refine Wc.seq ?_; refine Wc.reg ?_; refine Wo.op (Step.buildF (Fill.nil _)) ?_; refine Wo.op (Step.move (by conv => lhs; whnf)) ?_; refine Wo.storeH H 1 rfl rfl (by conv => lhs; whnf) (by rfl) (ones_cons (by rfl) (ones_cons (by rfl) (ones_cons (by rfl) (ones_cons (by rfl) (rfl))))) (by rfl) ?_; intro sS0 H nS0; refine Wo.op (Step.move (by conv => lhs; whnf)) ?_; refine Wo.nil ?_; refine Wc.ret ⟨_, Rs.cells rfl (Row.cells (H.row 1 rfl)) (by rfl) (Rs.tmp (by conv => lhs; whnf) (Rs.nil)), ?_⟩
    exact .inl ⟨hc18, rfl, H.topur⟩
  · have hv0 : validF idx per acc.length = 0 := Classical.byContradiction hc18
    obtain ⟨hg, hl1, hl6, hpr, hacc⟩ := validF_good hv0
    refine Wc.skip ?_; refine Wc.seq ?_; refine Wc.reg ?_; refine Wo.op (Step.faddr rfl) ?_; refine Wo.op (Step.load rfl (H.row 0 rfl) (by rfl)) ?_; refine Wo.op (Step.lenSl rfl (hI.at H hPN)) ?_; refine Wo.op (Step.move (by conv => lhs; whnf)) ?_; refine Wo.nil ?_; refine Wc.seq ?_; refine Wc.reg ?_; refine Wo.op (Step.move (by conv => lhs; whnf)) ?_; refine Wo.op (Step.buildF (Fill.cons (by conv => lhs; whnf) (by rfl) (by rfl) (by rfl) (Fill.nil _))) ?_; refine Wo.allocH H ?_; intro sB6 H nB6; refine Wo.storeH H 2 rfl rfl (by conv => lhs; whnf) (by rfl) (ones_cons (by rfl) (ones_cons (by rfl) (ones_cons (by rfl) (ones_cons (by rfl) (rfl))))) (by rfl) ?_; intro sS1 H nS1
    have H := H.addNil 1
    have H := H.addRows
    refine Wo.nil ?_; refine Wc.seq ?_; refine Wc.seq ?_; refine Wc.reg ?_; refine Wo.op (Step.faddr rfl) ?_; refine Wo.op (Step.load rfl (H.row 0 rfl) (by rfl)) ?_; refine Wo.op (Step.lenSl rfl (hA.at H hPN)) ?_; refine Wo.op (Step.move (by conv => lhs; whnf)) ?_; refine Wo.nil ?_; refine Wc.mid (fun ρ' s' => ∃ (vF' : Value) (vN' : Value) (vs' : List Value) (G : List Nat), (ρ' 1 = ptrV s.nextId 0) ∧ (ρ' 2 = ptrV sB1.nextId 0) ∧ (ρ' 6 = ptrV s3.nextId 0) ∧ (Hs s.nextId s s' [Item.own s.nextId 0 [vI, vP, vA], Item.own sB1.nextId 0 [.int .i64 (.ofNat 0), .int .i64 (.ofNat 0), .slice none 0 0, .slice none 0 0], Item.own s3.nextId 0 [.int .i64 ((idx.length : Nat) : Int), .int .i64 (.ofNat 0), vF', vN'], Item.lst 1 vF' (enB acc), Item.rows vN' vs' (nextRows idx per acc.length) G])) (Wc.block (Wc.loop (fun m ρ' s' => ∃ (i : Nat) (vF' : Value) (vN' : Value) (vs' : List Value) (G : List Nat), (ρ' 1 = ptrV s.nextId 0) ∧ (ρ' 2 = ptrV sB1.nextId 0) ∧ (ρ' 5 = .int .i64 ((idx.length : Nat) : Int)) ∧ (ρ' 6 = ptrV s3.nextId 0) ∧ (ρ' 28 = .int .i64 ((acc.length : Nat) : Int)) ∧ (ρ' 29 = .int .i64 ((i : Nat) : Int)) ∧ m = acc.length - i ∧ (Hs s.nextId s s' [Item.own s.nextId 0 [vI, vP, vA], Item.own sB1.nextId 0 [.int .i64 (.ofNat 0), .int .i64 (.ofNat 0), .slice none 0 0, .slice none 0 0], Item.own s3.nextId 0 [.int .i64 ((idx.length : Nat) : Int), .int .i64 (.ofNat 0), vF', vN'], Item.lst 1 vF' (enB (acc.take i)), Item.rows vN' vs' (nextRows idx per i) G]) ∧ (i ≤ acc.length)) ?_ ?_)) ?_
    · exact ⟨_, 0, .slice none 0 0, .slice none 0 0, [], [], rfl, rfl, rfl, rfl, rfl, rfl, rfl, H, by omega⟩
    · intro m0 ρ0 s0 hI
      obtain ⟨i, vF', vN', vs', G, e1, e2, e5, e6, e28, e29, hm0, H, hi⟩ := hI
      refine Wc.fix (k := 1) e1 ?_; refine Wc.fix (k := 2) e2 ?_; refine Wc.fix (k := 5) e5 ?_; refine Wc.fix (k := 6) e6 ?_; refine Wc.fix (k := 28) e28 ?_; refine Wc.fix (k := 29) e29 ?_
      have hrl : (nextRows idx per i).length = i := by simp [nextRows]
      have htl : (acc.take i).length = i := by rw [List.length_take]; omega
      refine Wc.seq ?_; refine Wc.reg ?_; refine Wo.op (Step.lss rfl rfl) ?_; refine Wo.nil ?_; refine Wc.seq ?_; refine Wc.ite rfl (fun hc30 => ?_) (fun hc30 => ?_)
      · refine Wc.skip ?_; refine Wc.seq ?_; refine Wc.block ?_; refine Wc.seq ?_; refine Wc.reg ?_; refine Wo.op (Step.move (by conv => lhs; whnf)) ?_; refine Wo.op (Step.move (by conv => lhs; whnf)) ?_; refine Wo.nil ?_; refine Wc.seq ?_; refine Wc.reg ?_; refine Wo.op (Step.move (by conv => lhs; whnf)) ?_; refine Wo.mkSliceH H rfl rfl (by omega) (by omega) (zeroI _) ?_; intro sM33 H nM33
        rw [show enI (List.replicate ((idx.length : Nat) : Int).toNat 0) = enI (postZ (digF idx per ((i : Nat) : Int)) idx.length idx.length) by rw [postZ_none]; rfl] at H
        refine Wo.op (Step.move (by conv => lhs; whnf)) ?_; refine Wo.op (Step.move (by conv => lhs; whnf)) ?_; refine Wo.op (Step.move (by conv => lhs; whnf)) ?_; refine Wo.nil ?_; refine Wc.seq ?_; refine Wc.seq ?_; refine Wc.reg ?_; refine Wo.op (Step.move (by conv => lhs; whnf)) ?_; refine Wo.op (Step.sub (b := 1) rfl rfl (by omega)) ?_; refine Wo.op (Step.move (by conv => lhs; whnf)) ?_; refine Wo.nil ?_; refine Wc.mid (fun ρ' s' => (ρ' 1 = ptrV s.nextId 0) ∧ (ρ' 2 = ptrV sB1.nextId 0) ∧ (ρ' 5 = .int .i64 ((idx.length : Nat) : Int)) ∧ (ρ' 6 = ptrV s3.nextId 0) ∧ (ρ' 7 = .int .i64 ((i : Nat) : Int)) ∧ (ρ' 8 = .slice (some ⟨s0.nextId, 0, none⟩) idx.length idx.length) ∧ (ρ' 28 = .int .i64 ((acc.length : Nat) : Int)) ∧ (ρ' 29 = .int .i64 ((i : Nat) : Int)) ∧ (Hs s.nextId s s' [Item.own s.nextId 0 [vI, vP, vA], Item.own sB1.nextId 0 [.int .i64 (.ofNat 0), .int .i64 (.ofNat 0), .slice none 0 0, .slice none 0 0], Item.own s3.nextId 0 [.int .i64 ((idx.length : Nat) : Int), .int .i64 (.ofNat 0), vF', vN'], Item.lst 1 vF' (enB (acc.take i)), Item.rows vN' vs' (nextRows idx per i) G, Item.own s0.nextId 1 (enI (digs idx per ((i : Nat) : Int)))])) (Wc.block (Wc.loop (fun m ρ' s' => ∃ (j : Nat), (ρ' 1 = ptrV s.nextId 0) ∧ (ρ' 2 = ptrV sB1.nextId 0) ∧ (ρ' 5 = .int .i64 ((idx.length : Nat) : Int)) ∧ (ρ' 6 = ptrV s3.nextId 0) ∧ (ρ' 7 = .int .i64 ((i : Nat) : Int)) ∧ (ρ' 8 = .slice (some ⟨s0.nextId, 0, none⟩) idx.length idx.length) ∧ (ρ' 9 = .int .i64 (((i : Nat) : Int) / prod ((mods idx per).drop j))) ∧ (ρ' 10 = .int .i64 (((j : Nat) : Int) - 1)) ∧ (ρ' 28 = .int .i64 ((acc.length : Nat) : Int)) ∧ (ρ' 29 = .int .i64 ((i : Nat) : Int)) ∧ m = j ∧ (Hs s.nextId s s' [Item.own s.nextId 0 [vI, vP, vA], Item.own sB1.nextId 0 [.int .i64 (.ofNat 0), .int .i64 (.ofNat 0), .slice none 0 0, .slice none 0 0], Item.own s3.nextId 0 [.int .i64 ((idx.length : Nat) : Int), .int .i64 (.ofNat 0), vF', vN'], Item.lst 1 vF' (enB (acc.take i)), Item.rows vN' vs' (nextRows idx per i) G, Item.own s0.nextId 1 (enI (postZ (digF idx per ((i : Nat) : Int)) idx.length j))]) ∧ (j ≤ idx.length)) ?_ ?_)) ?_
        · exact ⟨_, idx.length, rfl, rfl, rfl, rfl, rfl, rfl, by rw [rest_full hg]; rfl, rfl, rfl, rfl, rfl, H, by omega⟩
        · intro m2 ρ2 s2 hI
          obtain ⟨j, e1, e2, e5, e6, e7, e8, e9, e10, e28, e29, hm2, H, hj⟩ := hI
          refine Wc.fix (k := 1) e1 ?_; refine Wc.fix (k := 2) e2 ?_; refine Wc.fix (k := 5) e5 ?_; refine Wc.fix (k := 6) e6 ?_; refine Wc.fix (k := 7) e7 ?_; refine Wc.fix (k := 8) e8 ?_; refine Wc.fix (k := 9) e9 ?_; refine Wc.fix (k := 10) e10 ?_; refine Wc.fix (k := 28) e28 ?_; refine Wc.fix (k := 29) e29 ?_; refine Wc.seq ?_; refine Wc.seq ?_; refine Wc.reg ?_; refine Wo.op (Step.move (by conv => lhs; whnf)) ?_; refine Wo.op (Step.geq (b := 0) rfl rfl) ?_; refine Wo.nil ?_; refine Wc.ite rfl (fun hc38 => ?_) (fun hc38 => ?_)
          · refine Wc.skip ?_; refine Wc.seq ?_; refine Wc.block ?_; refine Wc.seq ?_; refine Wc.draw ?_
            obtain ⟨a, rfl⟩ : ∃ a, j = a + 1 := ⟨j - 1, by omega⟩
            rw [show (((a + 1 : Nat) : Int) - 1) = ((a : Nat) : Int) by omega]
            have hlp := hg.1
            have hgi := good_get hg (i := a) (by omega)
            have hrr := rest_range hg (x := ((i : Nat) : Int)) (by omega) (a + 1)
            have hzl := postZ_length (digF idx per ((i : Nat) : Int)) idx.length (a + 1)
            have hdr := digF_range hg ((i : Nat) : Int) (a := a) (by omega)
            refine Wd.pure rfl (Step.faddr rfl) ?_; refine Wd.read rfl (Step.load rfl (H.row 0 rfl) (by rfl)) ?_; refine Wd.pure rfl (Step.move (by conv => lhs; whnf)) ?_; refine Wd.idxI rfl (hI.at H hPN) rfl (by omega) (by omega) ?_; intro p44; refine Wd.pure rfl (Step.faddr rfl) ?_; refine Wd.read rfl (Step.load rfl (H.row 0 rfl) (by rfl)) ?_; refine Wd.pure rfl (Step.move (by conv => lhs; whnf)) ?_; refine Wd.idxI rfl (hP.at H hPN) rfl (by omega) (by omega) ?_; intro p49; refine Wd.pure rfl (Step.add rfl rfl (by omega)) ?_; refine Wd.pure rfl (Step.move (by conv => lhs; whnf)) ?_; refine Wd.nil ?_; refine Wc.draw ?_; refine Wd.pure rfl (Step.move (by conv => lhs; whnf)) ?_; refine Wd.pure rfl (Step.move (by conv => lhs; whnf)) ?_; refine Wd.pure rfl (Step.move (by conv => lhs; whnf)) ?_; refine Wd.pure rfl (Step.move (by conv => lhs; whnf)) ?_; refine Wd.pure rfl (Step.rem rfl rfl (by omega)) ?_; refine Wd.pure rfl (Step.move (by conv => lhs; whnf)) ?_; refine Wd.pure rfl (Step.move (by conv => lhs; whnf)) ?_; refine Wd.pure rfl (Step.quo rfl rfl (by omega)) ?_; refine Wd.setI H 5 rfl rfl (by rfl) (by omega) (by omega) (by omega) rfl ?_ (by simp); intro p60 sT60 H nT60; refine ⟨trivial, ?_⟩; refine Wd.pure rfl (Step.move (by conv => lhs; whnf)) ?_; refine Wd.nil ?_; refine Wc.reg ?_; refine Wo.op (Step.move (by conv => lhs; whnf)) ?_; refine Wo.op (Step.sub (b := 1) rfl rfl (by omega)) ?_; refine Wo.op (Step.move (by conv => lhs; whnf)) ?_; refine Wo.nil ?_
            rw [Int.toNat_natCast, show ((i : Nat) : Int) / prod ((mods idx per).drop (a + 1)) % (geti idx ((a : Nat) : Int) + geti per ((a : Nat) : Int)) = digF idx per ((i : Nat) : Int) a from rfl, postZ_set] at H
            exact ⟨_, by omega, a, rfl, rfl, rfl, rfl, rfl, rfl, by rw [← rest_step hg (show a < idx.length by omega)]; rfl, rfl, rfl, rfl, rfl, H, by omega⟩
          · refine Wc.exit ?_; refine .inl ⟨rfl, ?_⟩
            have hj0 : j = 0 := by omega
            subst hj0
            exact ⟨rfl, rfl, rfl, rfl, rfl, rfl, rfl, rfl, by rw [postZ_full] at H; exact H⟩
        · intro ρx2 sx2 hP
          obtain ⟨e1, e2, e5, e6, e7, e8, e28, e29, H⟩ := hP
          show Wc _ _ _ _ _ _ _
          refine Wc.fix (k := 1) e1 ?_; refine Wc.fix (k := 2) e2 ?_; refine Wc.fix (k := 5) e5 ?_; refine Wc.fix (k := 6) e6 ?_; refine Wc.fix (k := 7) e7 ?_; refine Wc.fix (k := 8) e8 ?_; refine Wc.fix (k := 28) e28 ?_; refine Wc.fix (k := 29) e29 ?_; refine Wc.seq ?_; refine Wc.reg ?_; refine Wo.op (Step.move (by conv => lhs; whnf)) ?_; refine Wo.nil ?_; refine Wc.seq ?_; refine Wc.seq ?_; refine Wc.reg ?_; refine Wo.op (Step.move (by conv => lhs; whnf)) ?_; refine Wo.nil ?_; refine Wc.mid (fun ρ' s' => ∃ (vR : Value), (ρ' 1 = ptrV s.nextId 0) ∧ (ρ' 2 = ptrV sB1.nextId 0) ∧ (ρ' 5 = .int .i64 ((idx.length : Nat) : Int)) ∧ (ρ' 6 = ptrV s3.nextId 0) ∧ (ρ' 7 = .int .i64 ((i : Nat) : Int)) ∧ (ρ' 12 = vR) ∧ (ρ' 28 = .int .i64 ((acc.length : Nat) : Int)) ∧ (ρ' 29 = .int .i64 ((i : Nat) : Int)) ∧ (Hs s.nextId s s' [Item.own s.nextId 0 [vI, vP, vA], Item.own sB1.nextId 0 [.int .i64 (.ofNat 0), .int .i64 (.ofNat 0), .slice none 0 0, .slice none 0 0], Item.own s3.nextId 0 [.int .i64 ((idx.length : Nat) : Int), .int .i64 (.ofNat 0), vF', vN'], Item.lst 1 vF' (enB (acc.take i)), Item.rows vN' vs' (nextRows idx per i) G, Item.own s0.nextId 1 (enI (digs idx per ((i : Nat) : Int))), Item.lst 1 vR (enI (nextR idx per i))])) (Wc.block (Wc.loop (fun m ρ' s' => ∃ (a : Nat) (vR : Value), (ρ' 1 = ptrV s.nextId 0) ∧ (ρ' 2 = ptrV sB1.nextId 0) ∧ (ρ' 5 = .int .i64 ((idx.length : Nat) : Int)) ∧ (ρ' 6 = ptrV s3.nextId 0) ∧ (ρ' 7 = .int .i64 ((i : Nat) : Int)) ∧ (ρ' 8 = .slice (some ⟨s0.nextId, 0, none⟩) idx.length idx.length) ∧ (ρ' 12 = vR) ∧ (ρ' 13 = .int .i64 ((a : Nat) : Int)) ∧ (ρ' 28 = .int .i64 ((acc.length : Nat) : Int)) ∧ (ρ' 29 = .int .i64 ((i : Nat) : Int)) ∧ m = idx.length - a ∧ (Hs s.nextId s s' [Item.own s.nextId 0 [vI, vP, vA], Item.own sB1.nextId 0 [.int .i64 (.ofNat 0), .int .i64 (.ofNat 0), .slice none 0 0, .slice none 0 0], Item.own s3.nextId 0 [.int .i64 ((idx.length : Nat) : Int), .int .i64 (.ofNat 0), vF', vN'], Item.lst 1 vF' (enB (acc.take i)), Item.rows vN' vs' (nextRows idx per i) G, Item.own s0.nextId 1 (enI (digs idx per ((i : Nat) : Int))), Item.lst 1 vR (enI ((List.range a).map fun b => nextF idx per ((i : Nat) : Int) ((b : Nat) : Int)))]) ∧ (a ≤ idx.length)) ?_ ?_)) ?_
          · have H := H.addNil 1
            exact ⟨_, 0, _, rfl, rfl, rfl, rfl, rfl, rfl, rfl, rfl, rfl, rfl, rfl, H, by omega⟩
          · intro m4 ρ4 s4 hI
            obtain ⟨a, vR, e1, e2, e5, e6, e7, e8, e12, e13, e28, e29, hm4, H, ha⟩ := hI
            refine Wc.fix (k := 1) e1 ?_; refine Wc.fix (k := 2) e2 ?_; refine Wc.fix (k := 5) e5 ?_; refine Wc.fix (k := 6) e6 ?_; refine Wc.fix (k := 7) e7 ?_; refine Wc.fix (k := 8) e8 ?_; refine Wc.fix (k := 12) e12 ?_; refine Wc.fix (k := 13) e13 ?_; refine Wc.fix (k := 28) e28 ?_; refine Wc.fix (k := 29) e29 ?_
            have hdl := digs_length idx per ((i : Nat) : Int)
            have hdr := digs_range hg ((i : Nat) : Int)
            have hrr : ((List.range a).map fun b => nextF idx per ((i : Nat) : Int) ((b : Nat) : Int)).length = a := by simp
            refine Wc.seq ?_; refine Wc.seq ?_; refine Wc.reg ?_; refine Wo.op (Step.move (by conv => lhs; whnf)) ?_; refine Wo.op (Step.move (by conv => lhs; whnf)) ?_; refine Wo.op (Step.lss rfl rfl) ?_; refine Wo.nil ?_; refine Wc.ite rfl (fun hc63 => ?_) (fun hc63 => ?_)
            · refine Wc.skip ?_; refine Wc.seq ?_; refine Wc.block ?_; refine Wc.seq ?_; refine Wc.reg ?_; refine Wo.op (Step.move (by conv => lhs; whnf)) ?_; refine Wo.op (Step.move (by conv => lhs; whnf)) ?_; refine Wo.idxI rfl (H.orow 5 (by rfl) (by first | rfl | omega)) rfl (by omega) (by omega) ?_; intro p68
              have hga := hdr _ (geti_mem (xs := (digs idx per ((i : Nat) : Int))) (i := ((a : Nat) : Int)) (by omega) (by omega))
              refine Wo.op (Step.add (b := 1) rfl rfl (by omega)) ?_; refine Wo.setI H 5 rfl rfl (by rfl) (by omega) (by omega) (by omega) rfl ?_ (by simp); intro p71 sT71 H nT71; refine Wo.nil ?_; refine Wc.seq ?_; refine Wc.reg ?_; refine Wo.op (Step.move (by conv => lhs; whnf)) ?_; refine Wo.op (Step.loadN rfl (H.row 0 rfl) (by rfl)) ?_; refine Wo.op (Step.move (by conv => lhs; whnf)) ?_
              -- call ref37_At
              have hdl2 : ((digs idx per ((i : Nat) : Int)).set ((a : Nat) : Int).toNat (geti (digs idx per ((i : Nat) : Int)) ((a : Nat) : Int) + 1)).length = idx.length := by rw [List.length_set, hdl]
              refine Wo.call (Wf.mono (ref37_At_ok (P := fun A => A < sT71.nextId) ((hI.at H hPN).mono (fun A h _ => h)) ((hP.at H hPN).mono (fun A h _ => h)) ((hA.at H hPN).mono (fun A h _ => h)) (fun A h => h) ((H.orow 5 (by rfl) hdl2.symm).mono (fun A h _ => h)) hg hl6 hpr hdl2 (fun n hn => by
                rcases List.mem_or_eq_of_mem_set hn with hn | rfl
                · have := hdr n hn; omega
                · omega)) ?_)
              rintro _ s7 ⟨rfl, c7⟩
              have H := H.pur c7
              rw [Int.toNat_natCast, nextF_digs hg ⟨by omega, by omega⟩ (by omega)]
              refine Wo.appI H 6 rfl (by rfl) rfl (by simp) (by omega) ?_; intro p76 v77 sA77 H nA77; refine Wo.op (Step.move (by conv => lhs; whnf)) ?_; refine Wo.nil ?_; refine Wc.reg ?_; refine Wo.op (Step.move (by conv => lhs; whnf)) ?_; refine Wo.op (Step.move (by conv => lhs; whnf)) ?_; refine Wo.idxI rfl (H.orow 5 (by rfl) (by first | rfl | omega)) rfl (by omega) (by omega) ?_; intro p80
              rw [Int.toNat_natCast, geti_set_self (by omega)]
              refine Wo.op (Step.sub (b := 1) rfl rfl (by omega)) ?_; refine Wo.setI H 5 rfl rfl (by rfl) (by omega) (by omega) (by omega) rfl ?_ (by simp); intro p83 sT83 H nT83; refine Wo.nil ?_; refine Wc.reg ?_; refine Wo.op (Step.move (by conv => lhs; whnf)) ?_; refine Wo.op (Step.add (b := 1) rfl rfl (by omega)) ?_; refine Wo.op (Step.move (by conv => lhs; whnf)) ?_; refine Wo.nil ?_
              have e : ((List.range a).map fun b => nextF idx per ((i : Nat) : Int) ((b : Nat) : Int)) ++ [nextF idx per ((i : Nat) : Int) ((a : Nat) : Int)] = ((List.range (a + 1)).map fun b => nextF idx per ((i : Nat) : Int) ((b : Nat) : Int)) := by rw [List.range_succ, List.map_append]; rfl
              rw [e, Int.toNat_natCast, show geti (digs idx per ((i : Nat) : Int)) ((a : Nat) : Int) + 1 - 1 = geti (digs idx per ((i : Nat) : Int)) ((a : Nat) : Int) by omega, set_back (xs := (digs idx per ((i : Nat) : Int))) (a := a) (by omega)] at H
              refine ⟨_, ?_, a + 1, _, rfl, rfl, rfl, rfl, rfl, rfl, rfl, rfl, rfl, rfl, rfl, H, by omega⟩
              omega
            · refine Wc.exit ?_; refine .inl ⟨rfl, ?_⟩
              have hak : a = idx.length := by omega
              subst hak
              exact ⟨_, rfl, rfl, rfl, rfl, rfl, rfl, rfl, rfl, H⟩
          · intro ρx4 sx4 hP
            obtain ⟨vR, e1, e2, e5, e6, e7, e12, e28, e29, H⟩ := hP
            show Wc _ _ _ _ _ _ _
            refine Wc.fix (k := 1) e1 ?_; refine Wc.fix (k := 2) e2 ?_; refine Wc.fix (k := 5) e5 ?_; refine Wc.fix (k := 6) e6 ?_; refine Wc.fix (k := 7) e7 ?_; refine Wc.fix (k := 12) e12 ?_; refine Wc.fix (k := 28) e28 ?_; refine Wc.fix (k := 29) e29 ?_
            have hnl : (nextR idx per i).length = idx.length := by simp [nextR]
            refine Wc.draw ?_; refine Wd.pure rfl (Step.faddr rfl) ?_; refine Wd.read rfl (Step.load rfl (H.row 2 rfl) (by rfl)) ?_; refine Wd.pure rfl (Step.faddr rfl) ?_; refine Wd.read rfl (Step.load rfl (H.row 0 rfl) (by rfl)) ?_; refine Wd.pure rfl (Step.move (by conv => lhs; whnf)) ?_; refine Wd.idxB rfl (hA.at H hPN) rfl (by omega) (by omega) ?_; intro p89; refine Wd.buildSH H (Fill.cons (by conv => lhs; whnf) (by rfl) (by rfl) (by rfl) (Fill.nil _)) (fun s' hp => by have H := H.pur hp; exact ⟨fun _ => (hA.at H hPN), fun _ => reread rfl (H.row 0 rfl) (by rfl) (Sl.veq (hA.at H hPN)), fun _ => reread rfl (H.row 2 rfl) (by rfl) (Sl.veq (H.bools 3 rfl)), trivial⟩) ?_; intro sM91 cM91 H nM91; refine Wd.pure rfl (Step.faddr rfl) ?_; refine Wd.read rfl (Step.load rfl (H.row 2 rfl) (by rfl)) ?_; refine Wd.pure rfl (Step.move (by conv => lhs; whnf)) ?_; refine Wd.buildSH H (Fill.cons (by conv => lhs; whnf) (Sl.cellE (H.ints 6 rfl) rfl) (by rfl) (by rfl) (Fill.nil _)) (fun s' hp => by have H := H.pur hp; exact ⟨fun _ => reread rfl (H.row 2 rfl) (by rfl) (Sl.veq (H.rsl 4 rfl)), fun _ => (H.again 7 rfl (veqs_one (veq_bool _))), fun _ => (hA.at H hPN), fun _ => reread rfl (H.row 0 rfl) (by rfl) (Sl.veq (hA.at H hPN)), fun _ => reread rfl (H.row 2 rfl) (by rfl) (Sl.veq (H.bools 3 rfl)), trivial⟩) ?_; intro sM96 cM96 H nM96; refine Wd.appGB H 3 7 rfl (by rfl) rfl (by rfl) (by omega) ?_; intro v92 sA92 H nA92; refine ⟨⟨fun _ => (H.again 8 rfl (veqs_one (Sl.veq (H.ints 6 rfl)))), fun _ => reread rfl (H.row 2 rfl) (by rfl) (Sl.veq (H.rsl 4 rfl)), fun h => absurd h (by omega), fun h => absurd h (by omega), fun h => absurd h (by omega), fun h => absurd h (by omega), trivial⟩, ?_⟩; refine Wd.pure rfl (Step.faddr rfl) ?_; refine Wd.appGR H 4 8 6 (by decide) rfl (by rfl) (H.ints 6 rfl) rfl (by rfl) (by rfl) (by rfl) (by omega) ?_; intro v97 sA97 F97 H nA97; refine ⟨⟨fun h => absurd h (by omega), fun h => absurd h (by omega), fun h => absurd h (by omega), fun h => absurd h (by omega), fun h => absurd h (by omega), fun h => absurd h (by omega), trivial⟩, ?_⟩
            refine Wd.storeH H 2 rfl rfl (Sl.cellE (H.bools 3 rfl) rfl) (by rfl) (Sl.one (H.bools 3 rfl)) (by rfl) ?_; intro sS2 H nS2; refine ⟨⟨fun h => absurd h (by omega), fun h => absurd h (by omega), fun h => absurd h (by omega), fun h => absurd h (by omega), fun h => absurd h (by omega), fun h => absurd h (by omega), trivial⟩, ?_⟩; refine Wd.pure rfl (Step.faddr rfl) ?_; refine Wd.storeH H 2 rfl rfl (Sl.cellE (H.rsl 4 rfl) rfl) (by rfl) (Sl.one (H.rsl 4 rfl)) (by rfl) ?_; intro sS3 H nS3; refine ⟨⟨fun h => absurd h (by omega), fun h => absurd h (by omega), fun h => absurd h (by omega), fun h => absurd h (by omega), fun h => absurd h (by omega), fun h => absurd h (by omega), trivial⟩, ?_⟩; refine Wd.nil ?_; refine Wc.reg ?_; refine Wo.op (Step.add (b := 1) rfl rfl (by omega)) ?_; refine Wo.op (Step.move (by conv => lhs; whnf)) ?_; refine Wo.nil ?_
            rw [nextRows_snoc, ← take_getb (by omega)] at H
            refine ⟨_, ?_, i + 1, _, _, _, _, rfl, rfl, rfl, rfl, rfl, rfl, rfl, H.take 5, by omega⟩
            omega
      · refine Wc.exit ?_; refine .inl ⟨rfl, ?_⟩
        exact ⟨_, _, _, _, rfl, rfl, rfl, by rw [show i = acc.length by omega, List.take_length] at H; exact H⟩
    · intro ρx0 sx0 hP
      obtain ⟨vF', vN', vs', G, e1, e2, e6, H⟩ := hP
      show Wc _ _ _ _ _ _ _
      refine Wc.fix (k := 1) e1 ?_; refine Wc.fix (k := 2) e2 ?_; refine Wc.fix (k := 6) e6 ?_; refine Wc.seq ?_; refine Wc.reg ?_; refine Wo.op (Step.loadN rfl (H.row 2 rfl) (by rfl)) ?_
      -- call ref08_Minimal
      refine Wo.call (Wf.mono (ref08_Minimal_ok (P := fun A => A < sx0.nextId) ((H.bools 3 rfl).mono (fun A h _ => h)) ((H.rows 4 rfl).mono (fun A h _ => h)) (fun A h => h) (nextRows_ok hg hacc) (by omega) (by omega)) ?_)
      rintro _ s6 ⟨vF3, vN3, vs3, G3, t, hmin, hA2, hle, rfl, hnew⟩
      have H := H.adds hnew
      refine Wo.allocH H ?_; intro sB14 H nB14; refine Wo.storeH H 7 rfl rfl (by conv => lhs; whnf) (by rfl) (ones_cons (by rfl) (ones_cons (by rfl) (ones_cons (Sl.one (H.bools 5 rfl)) (ones_cons (Sl.one (H.rsl 6 rfl)) (rfl))))) (by rfl) ?_; intro sS4 H nS4; refine Wo.nil ?_; refine Wc.seq ?_; refine Wc.seq ?_; refine Wc.reg ?_; refine Wo.op (Step.faddr rfl) ?_; refine Wo.op (Step.load rfl (H.row 7 rfl) (by rfl)) ?_; refine Wo.op (Step.lenSl rfl (H.bools 5 rfl)) ?_; refine Wo.op (Step.gtr (b := 512) rfl rfl) ?_; refine Wo.nil ?_; refine Wc.ite rfl (fun hc106 => ?_) (fun hc106 => ?_)
      · refine Wc.seq ?_; refine Wc.reg ?_; refine Wo.op (Step.buildF (Fill.nil _)) ?_; refine Wo.storeH H 1 rfl rfl (by conv => lhs; whnf) (by rfl) (ones_cons (by rfl) (ones_cons (by rfl) (ones_cons (by rfl) (ones_cons (by rfl) (rfl))))) (by rfl) ?_; intro sS5 H nS5; refine Wo.op (Step.move (by conv => lhs; whnf)) ?_; refine Wo.nil ?_; refine Wc.ret ⟨_, Rs.cells rfl (Row.cells (H.row 1 rfl)) (by rfl) (Rs.tmp (by conv => lhs; whnf) (Rs.nil)), ?_⟩
        exact .inr ⟨hv0, t, hmin, hA2, .inl ⟨by omega, rfl, H.topur⟩⟩
      · refine Wc.skip ?_; refine Wc.seq ?_; refine Wc.reg ?_; refine Wo.op (Step.loadN rfl (H.row 7 rfl) (by rfl)) ?_; refine Wo.storeH H 1 rfl rfl (by conv => lhs; whnf) (by rfl) (ones_cons (by rfl) (ones_cons (by rfl) (ones_cons (Sl.one (H.bools 5 rfl)) (ones_cons (Sl.one (H.rsl 6 rfl)) (rfl))))) (by rfl) ?_; intro sS6 H nS6; refine Wo.op (Step.move (by conv => lhs; whnf)) ?_; refine Wo.nil ?_; refine Wc.ret ⟨_, Rs.cells rfl (Row.cells (H.row 1 rfl)) (by rfl) (Rs.tmp (by conv => lhs; whnf) (Rs.nil)), ?_⟩
        exact .inr ⟨hv0, t, hmin, hA2, .inr ⟨by omega, _, _, _, _, rfl, H.new2 5 6 (by decide) rfl rfl⟩⟩
end Go.EvK
end

section
set_option linter.unusedVariables false
set_option maxRecDepth 100000
set_option maxHeartbeats 4000000
namespace Go.EvK
open Go Go.Ev Go.EvW Go.Co Go.Aut
theorem law37_all_ok {s : St} {P : Nat → Prop} {vI vP vA : Value} {idx per : List Int} {acc : List Bool} {w : List UInt8} (hI : IsInts s P vI idx) (hP : IsInts s P vP per) (hA : IsBools s P vA acc) (hPN : ∀ A, P A → A < s.nextId) (hw : w.length < 9223372036854775807) :
    Wf kprog n_law37_all [.agg ⟨[vI, vP, vA]⟩, .string ⟨⟨w⟩⟩] s (fun v s' => v = .bool true ∧ Pur s s') := by
  have H := Hs.start s
  refine Wf.of p_law37_all rfl ?_
  unfold c_law37_all
  refine Wc.seq ?_; refine Wc.reg ?_; refine Wo.boxH H (by conv => lhs; whnf) ?_; intro sB2 H nB2; refine Wo.op (Step.move (by conv => lhs; whnf)) ?_; refine Wo.nil ?_; refine Wc.seq ?_; refine Wc.reg ?_; refine Wo.op (Step.loadN rfl (H.row 0 rfl) (by rfl)) ?_
  -- call counting_Dfa
  refine Wo.call (Wf.mono (counting_Dfa_ok (hI.at H hPN) (hP.at H hPN) (hA.at H hPN) (fun A hA => by have := hPN A hA; have := H.le; omega)) ?_)
  rintro _ s1 hd
  obtain ⟨x1, y1, e1, vF1, vN1, F1, R1, Z1, rfl, hD1, hz1, hnew1⟩ := hd.out
  have H := H.adds hnew1
  refine Wo.op (Step.move (by conv => lhs; whnf)) ?_; refine Wo.op (Step.extract rfl (by rfl)) ?_; refine Wo.op (Step.extract rfl (by rfl)) ?_; refine Wo.allocH H ?_; intro sB5 H nB5; refine Wo.storeH H 2 rfl rfl (by conv => lhs; whnf) (by rfl) (ones_cons (by rfl) (ones_cons (by rfl) (ones_cons (Sl.one (hz1 _ (H.ok 1 _ rfl)).1) (ones_cons (IsRows.one ((hz1 _ (H.ok 1 _ rfl)).2)) (rfl))))) (by rfl) ?_; intro sS0 H nS0; refine Wo.op (Step.move (by conv => lhs; whnf)) ?_; refine Wo.nil ?_; refine Wc.seq ?_; refine Wc.reg ?_; refine Wo.op (Step.loadN rfl (H.row 0 rfl) (by rfl)) ?_
  -- call ref37_Dfa
  refine Wo.call (Wf.mono (ref37_Dfa_ok (hI.at H hPN) (hP.at H hPN) (hA.at H hPN) (fun A hA => by have := hPN A hA; have := H.le; omega)) ?_)
  rintro _ s2 hd
  obtain ⟨x2, y2, e2, vF2, vN2, F2, R2, Z2, rfl, hD2, hz2, hnew2⟩ := hd.out
  have H := H.adds hnew2
  refine Wo.op (Step.move (by conv => lhs; whnf)) ?_; refine Wo.op (Step.extract rfl (by rfl)) ?_; refine Wo.op (Step.extract rfl (by rfl)) ?_; refine Wo.allocH H ?_; intro sB7 H nB7; refine Wo.storeH H 4 rfl rfl (by conv => lhs; whnf) (by rfl) (ones_cons (by rfl) (ones_cons (by rfl) (ones_cons (Sl.one (hz2 _ (H.ok 3 _ rfl)).1) (ones_cons (IsRows.one ((hz2 _ (H.ok 3 _ rfl)).2)) (rfl))))) (by rfl) ?_; intro sS1 H nS1; refine Wo.op (Step.move (by conv => lhs; whnf)) ?_; refine Wo.nil ?_; refine Wc.seq ?_; refine Wc.draw ?_; refine Wd.read rfl (Step.loadN rfl (H.row 0 rfl) (by rfl)) ?_; refine Wd.read rfl (Step.loadN rfl (H.row 0 rfl) (by rfl)) ?_
  -- call counting_Validate
  refine Wd.call (Wf.mono (counting_Validate_ok (hI.at H hPN) (hP.at H hPN) (hA.at H hPN)) ?_)
  rintro _ s3 ⟨rfl, c3⟩
  have H := H.pur c3
  refine ⟨⟨fun _ => ⟨_, _, Step.loadN rfl (H.row 0 rfl) (by rfl), veq_agg3 (Sl.veq1 (hI.at H hPN)) (Sl.veq1 (hP.at H hPN)) (Sl.veq1 (hA.at H hPN))⟩, fun h => absurd h (by omega), trivial⟩, ?_⟩
  -- call ref37_Validate
  refine Wd.call (Wf.mono (ref37_Validate_ok (hI.at H hPN) (hP.at H hPN) (hA.at H hPN) (fun A hA => by have := hPN A hA; have := H.le; omega)) ?_)
  rintro _ s4 ⟨rfl, c4⟩
  have H := H.pur c4
  refine ⟨⟨fun h => absurd h (by omega), fun h => absurd h (by omega), trivial⟩, ?_⟩; refine Wd.pure rfl (Step.eql rfl rfl) ?_; refine Wd.pure rfl (Step.move (by conv => lhs; whnf)) ?_; refine Wd.cases (j := 24) rfl (fun hc24 => ?_) (fun hc24 => ?_)
  · refine Wd.on rfl ?_; refine Wd.read rfl (Step.loadN rfl (H.row 0 rfl) (by rfl)) ?_; refine Wd.on rfl ?_; refine Wd.pure rfl (Step.move (by conv => lhs; whnf)) ?_; refine Wd.on rfl ?_; refine Wd.read rfl (Step.loadN rfl (H.row 0 rfl) (by rfl)) ?_; refine Wd.on rfl ?_; refine Wd.pure rfl (Step.move (by conv => lhs; whnf)) ?_; refine Wd.on rfl ?_
    -- call counting_Match
    refine Wd.call (Wf.mono (counting_Match_ok (w := w) (hI.at H hPN) (hP.at H hPN) (hA.at H hPN) hw) ?_)
    rintro _ s5 ⟨rfl, c5⟩
    have H := H.pur c5
    refine ⟨⟨fun _ => ⟨_, _, Step.loadN rfl (H.row 0 rfl) (by rfl), veq_agg3 (Sl.veq1 (hI.at H hPN)) (Sl.veq1 (hP.at H hPN)) (Sl.veq1 (hA.at H hPN))⟩, fun h => absurd h (by omega), fun h => absurd h (by omega), fun h => absurd h (by omega), trivial⟩, ?_⟩; refine Wd.on rfl ?_
    -- call ref37_Match
    refine Wd.call (Wf.mono (ref37_Match_ok (w := w) (hI.at H hPN) (hP.at H hPN) (hA.at H hPN) (fun A hA => by have := hPN A hA; have := H.le; omega) hw) ?_)
    rintro _ s6 ⟨rfl, c6⟩
    have H := H.pur c6
    refine ⟨⟨fun h => absurd h (by omega), fun h => absurd h (by omega), fun h => absurd h (by omega), fun h => absurd h (by omega), trivial⟩, ?_⟩; refine Wd.on rfl ?_; refine Wd.pure rfl (Step.eqB rfl rfl) ?_; refine Wd.pure rfl (Step.pickT rfl (by conv => lhs; whnf)) ?_; refine Wd.pure rfl (Step.move (by conv => lhs; whnf)) ?_; refine Wd.cases (j := 33) rfl (fun hc33 => ?_) (fun hc33 => ?_)
    · refine Wd.on rfl ?_; refine Wd.pure rfl (Step.move (by conv => lhs; whnf)) ?_; refine Wd.on rfl ?_; refine Wd.pure rfl (Step.move (by conv => lhs; whnf)) ?_; refine Wd.on rfl ?_; refine Wd.pure rfl (Step.eql rfl rfl) ?_; refine Wd.pure rfl (Step.pickT rfl (by conv => lhs; whnf)) ?_; refine Wd.pure rfl (Step.move (by conv => lhs; whnf)) ?_; refine Wd.cases (j := 38) rfl (fun hc38 => ?_) (fun hc38 => ?_)
      · refine Wd.on rfl ?_; refine Wd.read rfl (Step.loadN rfl (H.row 2 rfl) (by rfl)) ?_; refine Wd.on rfl ?_; refine Wd.read rfl (Step.loadN rfl (H.row 4 rfl) (by rfl)) ?_; refine Wd.on rfl ?_
        -- call ref07_Same
        refine Wd.call (Wf.mono (ref07_Same_ok (hz1 _ (H.ok 1 _ rfl)).1 (hz1 _ (H.ok 1 _ rfl)).2 (hz2 _ (H.ok 3 _ rfl)).1 (hz2 _ (H.ok 3 _ rfl)).2 (fun A h => h) (by have := hD1.small; omega) (by have := hD1.small; omega) (fun r hr => by have := hD1.small.2.2 r hr; omega)) ?_)
        rintro _ s7 ⟨rfl, c7⟩
        have H := H.pur c7
        refine ⟨⟨fun h => absurd h (by omega), fun h => absurd h (by omega), fun h => absurd h (by omega), fun h => absurd h (by omega), fun h => absurd h (by omega), fun h => absurd h (by omega), trivial⟩, ?_⟩; refine Wd.pure rfl (Step.pickT rfl (by conv => lhs; whnf)) ?_; refine Wd.pure rfl (Step.move (by conv => lhs; whnf)) ?_; refine Wd.nil ?_; refine Wc.ret ⟨_, Rs.tmp (by conv => lhs; whnf) (Rs.nil), ?_⟩
        exact ⟨congrArg Value.bool (decide_eq_true (hD1.det hD2).2), H.topur⟩
      · exact absurd (hD1.det hD2).1 hc38
    · exact absurd rfl hc33
  · exact absurd rfl hc24
theorem law37_known_ok {s : St} : Wf kprog n_law37_known [] s (fun v s' => v = .bool true ∧ s = s') := by
  refine Wf.of p_law37_known rfl ?_; refine Wc.reg (Wo.op (Step.move rfl) (Wo.nil ?_))
  exact ⟨_, Rs.tmp rfl Rs.nil, rfl, rfl⟩
end Go.EvK
end

section
set_option linter.unusedVariables false
set_option maxRecDepth 100000
set_option maxHeartbeats 4000000
namespace Go.EvK
open Go Go.Ev Go.EvW Go.Co Go.Aut
theorem law37_CountingMade_ok {s : St} {P : Nat → Prop} {v0 : Value} {l0 : List Int} {x1 x2 x3 : Int} (h0 : IsInts s P v0 l0) (hP : ∀ A, P A → A < s.nextId) (b0 : l0.length ≤ 281474976710656) (w0 : ∀ n ∈ l0, I64 n) (i1 : I64 x1) (i2 : I64 x2) :
    Wf kprog n_law37_CountingMade [v0, .int .i64 x1, .int .i64 x2, .int .i64 x3] s (fun v s' => v = .bool true) := by
  have H := Hs.start s
  refine Wf.of p_law37_CountingMade rfl ?_
  unfold c_law37_CountingMade
  refine Wc.seq ?_; refine Wc.reg ?_; refine Wo.op (Step.move (by conv => lhs; whnf)) ?_; refine Wo.nil ?_; refine Wc.seq ?_; refine Wc.reg ?_; refine Wo.op (Step.move (by conv => lhs; whnf)) ?_
  -- call made_New
  refine Wo.call (Wf.mono (made_New_ok h0 b0 w0) ?_)
  rintro _ s1 ⟨rfl, c1, n1, t1⟩
  have hPT : ¬ P s.nextId := fun h => by have := hP _ h; omega
  refine Wo.op (Step.move (by conv => lhs; whnf)) ?_; refine Wo.nil ?_; refine Wc.seq ?_; refine Wc.reg ?_; refine Wo.op (Step.move (by conv => lhs; whnf)) ?_
  -- call made_Tape_Next
  refine Wo.call (Wf.mono (made_Tape_Next_ok (n := 2) t1 hPT ⟨by omega, by omega⟩) ?_)
  rintro _ s2 ⟨r, rfl, hr0, hr1, c2, n2, t2⟩
  refine Wo.op (Step.add (a := 1) rfl rfl (by omega)) ?_; refine Wo.op (Step.move (by conv => lhs; whnf)) ?_; refine Wo.nil ?_; refine Wc.seq ?_; refine Wc.reg ?_; refine Wo.op (Step.move (by conv => lhs; whnf)) ?_; refine Wo.op (Step.move (by conv => lhs; whnf)) ?_
  -- call made_Tape_Counts
  refine Wo.call (Wf.mono (made_Tape_Counts_ok (k := 1 + r) t2 hPT (fun A hA => by have := hP A hA; omega) ⟨by omega, by omega⟩) ?_)
  rintro _ s3 ⟨vI, vP, vA, idx, per, acc, rfl, _, _, _, hg, hl, hri, hrp, hp, hacc, c3, t3, AI, AP, AA, gI, gP, gA, lI, lP, lA, d1, d2, d3⟩
  have hpp := prod_pos (mods_pos hg)
  have hlp := hg.1
  obtain ⟨rfl, oI⟩ := gI.fullI (List.length_pos_iff.1 (by omega))
  obtain ⟨rfl, oP⟩ := gP.fullI (List.length_pos_iff.1 (by omega))
  obtain ⟨rfl, oA⟩ := gA.fullB (List.length_pos_iff.1 (by omega))
  have bI := oI.1
  have bP := oP.1
  have bA := oA.1
  have n3 := c3.1
  refine Wo.alloc ?_; intro sB eB oB nB
  have oI := oI.pur eB
  have oP := oP.pur eB
  have oA := oA.pur eB
  have t3 := t3.pur eB
  refine Wo.store rfl (by conv => lhs; whnf) (by rfl) (by rfl) oB (by rfl) ?_; intro sS wS oS nS
  have oI := oI.chg wS (by omega)
  have oP := oP.chg wS (by omega)
  have oA := oA.chg wS (by omega)
  have t3 : MTape P sS s.nextId := t3.chg wS (by omega) (fun A hA e => by have := hP A hA; omega)
  refine Wo.nil ?_; refine Wc.seq ?_; refine Wc.reg ?_; refine Wo.op (Step.move (by conv => lhs; whnf)) ?_; refine Wo.op (Step.move (by conv => lhs; whnf)) ?_
  -- call made_Tape_Word
  refine Wo.call (Wf.mono (made_Tape_Word_ok (k := 1 + r) (most := 14) t3 hPT (fun A hA => by have := hP A hA; omega) ⟨by omega, by omega⟩ ⟨by omega, by omega⟩) ?_)
  rintro _ s6 ⟨w, rfl, hwl, hwm, c6, _⟩
  have hwl : w.length ≤ 14 := hwl
  have e3 : Ext s.nextId s s3 := ((Pur.ext c1).wrt c2 (Nat.le_refl _)).wrt c3 (Nat.le_refl _)
  have e4 : Ext s.nextId s sB := e3.step eB (fun B _ e => e.elim)
  have e5 : Ext s.nextId s sS := e4.step wS (fun B hB e => by have e' : B = s3.nextId := e; omega)
  have hext : Ext s.nextId s s6 := e5.wrt c6 (Nat.le_refl _)
  have H := Hs.four (x := Item.own s3.nextId 0 [.slice (some ⟨AI, 0, none⟩) idx.length idx.length, .slice (some ⟨AP, 0, none⟩) per.length per.length, .slice (some ⟨AA, 0, none⟩) acc.length acc.length]) (y := Item.own AI 1 (enI idx)) (z := Item.own AP 1 (enI per)) (u := Item.own AA 1 (enB acc)) hext (Nat.le_refl _) (oS.chg c6 (by omega)) (oI.chg c6 (by omega)) (oP.chg c6 (by omega)) (oA.chg c6 (by omega)) rfl rfl rfl rfl (by omega) (by omega) (by omega) (by omega) ⟨by omega, by omega, by omega, d1, d2, d3⟩
  refine Wo.op (Step.move (by conv => lhs; whnf)) ?_; refine Wo.nil ?_; refine Wc.seq ?_; refine Wc.seq ?_; refine Wc.reg ?_; refine Wo.op (Step.loadN rfl (H.row 0 rfl) (by rfl)) ?_; refine Wo.op (Step.move (by conv => lhs; whnf)) ?_
  -- call law37_all
  refine Wo.call (Wf.mono (law37_all_ok (w := w) (P := fun A => A < s6.nextId) (own_ints (H.own 1 rfl) rfl) (own_ints (H.own 2 rfl) rfl) (own_bools (H.own 3 rfl) rfl) (fun A h => h) (by omega)) ?_)
  rintro _ s7 ⟨rfl, c7⟩
  have H := H.pur c7
  refine Wo.op (Step.not rfl) ?_; refine Wo.nil ?_; refine Wc.no rfl ?_; refine Wc.skip ?_; refine Wc.seq ?_; refine Wc.reg ?_; refine Wo.op (Step.move (by conv => lhs; whnf)) ?_; refine Wo.op (Step.move (by conv => lhs; whnf)) ?_
  -- call made_Mod
  refine Wo.call (Wf.mono (made_Mod_ok (x := x2) (n := 1 + r) i2 (by omega)) ?_)
  rintro _ _ ⟨rfl, rfl⟩
  have hm1 := Int.emod_nonneg x2 (show 1 + r ≠ 0 by omega)
  have hm2 := Int.emod_lt_of_pos x2 (show 0 < 1 + r by omega)
  obtain ⟨k, hk, hk0⟩ : ∃ k : Nat, (if 1 + r < 1 then 0 else x2 % (1 + r)) = ((k : Nat) : Int) ∧ k < idx.length := ⟨(x2 % (1 + r)).toNat, by rw [if_neg (by omega)]; omega, by omega⟩
  rw [hk]
  refine Wo.op (Step.move (by conv => lhs; whnf)) ?_; refine Wo.nil ?_; refine Wc.seq ?_; refine Wc.seq ?_; refine Wc.reg ?_; refine Wo.op (Step.move (by conv => lhs; whnf)) ?_
  -- call made_Mod
  refine Wo.call (Wf.mono (made_Mod_ok (x := x1) (n := 4) i1 (by omega)) ?_)
  rintro _ _ ⟨rfl, rfl⟩
  generalize (if (4 : Int) < 1 then 0 else x1 % 4) = q
  refine Wo.nil ?_; refine Wc.mid (fun ρ' s' => ∃ (vI' : Value) (vP' : Value) (vA' : Value) (i' : List Int) (p' : List Int) (a' : List Bool) (Z : EvW.Item), (ρ' 11 = ptrV s3.nextId 0) ∧ (ρ' 12 = .string ⟨⟨w⟩⟩) ∧ (Hs s.nextId s s' [Item.own s3.nextId 0 [vI', vP', vA'], Z]) ∧ (∀ s2, Z.ok s2 → IsInts s2 (fun A => A < s2.nextId) vI' i' ∧ IsInts s2 (fun A => A < s2.nextId) vP' p' ∧ IsBools s2 (fun A => A < s2.nextId) vA' a')) (Wc.block ?_) ?_
  · refine Wc.seq ?_; refine Wc.reg ?_; refine Wo.op (Step.eql (b := 0) rfl rfl) ?_; refine Wo.op (Step.move (by conv => lhs; whnf)) ?_; refine Wo.nil ?_; refine Wc.ite rfl (fun hc34 => ?_) (fun hc34 => ?_)
    · refine Wc.reg ?_; refine Wo.op (Step.faddr rfl) ?_; refine Wo.op (Step.load rfl (H.row 0 rfl) (by rfl)) ?_; refine Wo.op (Step.move (by conv => lhs; whnf)) ?_; refine Wo.op (Step.move (by conv => lhs; whnf)) ?_; refine Wo.setI H 1 rfl rfl (by rfl) (by omega) (by omega) (by omega) rfl ?_ (by simp); intro p40 sT40 H nT40; refine Wo.nil ?_
      exact ⟨_, _, _, idx.set k x3, per, acc, _, rfl, rfl, ((H.both (i := 1) (j := 2) (by decide) rfl rfl).both (i := 1) (j := 3) (by decide) rfl rfl).take 2, fun s2 h => ⟨own_ints h.1.1 (by simp), own_ints h.1.2 (by simp), own_bools h.2 (by simp)⟩⟩
    · refine Wc.seq ?_; refine Wc.reg ?_; refine Wo.op (Step.eql (b := 1) rfl rfl) ?_; refine Wo.op (Step.move (by conv => lhs; whnf)) ?_; refine Wo.nil ?_; refine Wc.ite rfl (fun hc41 => ?_) (fun hc41 => ?_)
      · refine Wc.reg ?_; refine Wo.op (Step.faddr rfl) ?_; refine Wo.op (Step.load rfl (H.row 0 rfl) (by rfl)) ?_; refine Wo.op (Step.move (by conv => lhs; whnf)) ?_; refine Wo.op (Step.move (by conv => lhs; whnf)) ?_; refine Wo.setI H 2 rfl rfl (by rfl) (by omega) (by omega) (by omega) rfl ?_ (by simp); intro p47 sT47 H nT47; refine Wo.nil ?_
        exact ⟨_, _, _, idx, per.set k x3, acc, _, rfl, rfl, ((H.both (i := 1) (j := 2) (by decide) rfl rfl).both (i := 1) (j := 3) (by decide) rfl rfl).take 2, fun s2 h => ⟨own_ints h.1.1 (by simp), own_ints h.1.2 (by simp), own_bools h.2 (by simp)⟩⟩
      · refine Wc.seq ?_; refine Wc.reg ?_; refine Wo.op (Step.eql (b := 2) rfl rfl) ?_; refine Wo.op (Step.move (by conv => lhs; whnf)) ?_; refine Wo.nil ?_; refine Wc.ite rfl (fun hc48 => ?_) (fun hc48 => ?_)
        · refine Wc.reg ?_; refine Wo.op (Step.faddr rfl) ?_; refine Wo.op (Step.load rfl (H.row 0 rfl) (by rfl)) ?_; refine Wo.op (Step.move (by conv => lhs; whnf)) ?_; refine Wo.slice rfl (Sl.of_own (P := fun B => B = AA) (H.own 3 rfl) rfl (by simp)) Bnd.none (Bnd.some rfl (by omega)) (by omega) (by omega) ?_; intro vS hS
          have hB := Sl.cutB (l := 0) (h := k) (xs := acc) (by omega) (by omega) hS
          have H := H.as 3 rfl (y := Item.bls AA vS (acc.take k)) ⟨(H.own 3 rfl).1, hB⟩ (fun B hB => hB)
          refine Wo.op (Step.faddr rfl) ?_; refine Wo.storeH H 0 rfl rfl (Sl.cellE hB rfl) (by rfl) (Sl.one hB) (by rfl) ?_; intro sS0 H nS0; refine Wo.nil ?_
          exact ⟨_, _, _, idx, per, acc.take k, _, rfl, rfl, ((H.both (i := 1) (j := 2) (by decide) rfl rfl).both (i := 1) (j := 3) (by decide) rfl rfl).take 2, fun s2 h => ⟨own_ints h.1.1 (by simp), own_ints h.1.2 (by simp), h.2.2.mono (fun A hA _ => hA)⟩⟩
        · refine Wc.seq ?_; refine Wc.reg ?_; refine Wo.op (Step.eql (b := 3) rfl rfl) ?_; refine Wo.op (Step.move (by conv => lhs; whnf)) ?_; refine Wo.nil ?_; refine Wc.ite rfl (fun hc55 => ?_) (fun hc55 => ?_)
          · refine Wc.reg ?_; refine Wo.op (Step.faddr rfl) ?_; refine Wo.op (Step.load rfl (H.row 0 rfl) (by rfl)) ?_
            have H := H.tolst (n := per.length) 2 rfl (by simp) (fun h => by have h := congrArg List.length h; rw [show (enI per).length = per.length by simp] at h; simp only [List.length_nil] at h; omega)
            refine Wo.appI H 2 (n := 1) rfl (by rfl) rfl (by simp) (by omega) ?_; intro p59 v60 sA60 H nA60; refine Wo.op (Step.faddr rfl) ?_; refine Wo.storeH H 0 rfl rfl (Sl.cellE (H.ints 2 rfl) rfl) (by rfl) (Sl.one (H.ints 2 rfl)) (by rfl) ?_; intro sS1 H nS1; refine Wo.nil ?_
            exact ⟨_, _, _, idx, per ++ [1], acc, _, rfl, rfl, ((H.both (i := 1) (j := 2) (by decide) rfl rfl).both (i := 1) (j := 3) (by decide) rfl rfl).take 2, fun s2 h => ⟨own_ints h.1.1 (by simp), (Lsv.sl (n := (per ++ [1]).length) h.1.2 (by omega) (by simp)).mono (fun A h _ => h), own_bools h.2 (by simp)⟩⟩
          · refine Wc.skip ?_
            exact ⟨_, _, _, idx, per, acc, _, rfl, rfl, ((H.both (i := 1) (j := 2) (by decide) rfl rfl).both (i := 1) (j := 3) (by decide) rfl rfl).take 2, fun s2 h => ⟨own_ints h.1.1 (by simp), own_ints h.1.2 (by simp), own_bools h.2 (by simp)⟩⟩
  · intro ρm0 sm0 hM
    obtain ⟨vI', vP', vA', i', p', a', Z, e11, e12, H, hz⟩ := hM
    show Wc _ _ _ _ _ _ _
    refine Wc.fix (k := 11) e11 ?_; refine Wc.fix (k := 12) e12 ?_; refine Wc.seq ?_; refine Wc.draw ?_; refine Wd.read rfl (Step.loadN rfl (H.row 0 rfl) (by rfl)) ?_; refine Wd.read rfl (Step.loadN rfl (H.row 0 rfl) (by rfl)) ?_
    -- call counting_Validate
    refine Wd.call (Wf.mono (counting_Validate_ok (hz _ (H.ok 1 _ rfl)).1 (hz _ (H.ok 1 _ rfl)).2.1 (hz _ (H.ok 1 _ rfl)).2.2) ?_)
    rintro _ s11 ⟨rfl, c11⟩
    have H := H.pur c11
    refine ⟨⟨fun _ => ⟨_, _, Step.loadN rfl (H.row 0 rfl) (by rfl), veq_agg3 (Sl.veq1 (hz _ (H.ok 1 _ rfl)).1) (Sl.veq1 (hz _ (H.ok 1 _ rfl)).2.1) (Sl.veq1 (hz _ (H.ok 1 _ rfl)).2.2)⟩, fun h => absurd h (by omega), trivial⟩, ?_⟩
    -- call ref37_Validate
    refine Wd.call (Wf.mono (ref37_Validate_ok (hz _ (H.ok 1 _ rfl)).1 (hz _ (H.ok 1 _ rfl)).2.1 (hz _ (H.ok 1 _ rfl)).2.2 (fun A h => h)) ?_)
    rintro _ s12 ⟨rfl, c12⟩
    have H := H.pur c12
    refine ⟨⟨fun h => absurd h (by omega), fun h => absurd h (by omega), trivial⟩, ?_⟩; refine Wd.pure rfl (Step.eql rfl rfl) ?_; refine Wd.pure rfl (Step.move (by conv => lhs; whnf)) ?_; refine Wd.cases (j := 67) rfl (fun hc67 => ?_) (fun hc67 => ?_)
    · refine Wd.on rfl ?_; refine Wd.read rfl (Step.loadN rfl (H.row 0 rfl) (by rfl)) ?_; refine Wd.on rfl ?_; refine Wd.pure rfl (Step.move (by conv => lhs; whnf)) ?_; refine Wd.on rfl ?_; refine Wd.read rfl (Step.loadN rfl (H.row 0 rfl) (by rfl)) ?_; refine Wd.on rfl ?_; refine Wd.pure rfl (Step.move (by conv => lhs; whnf)) ?_; refine Wd.on rfl ?_
      -- call counting_Match
      refine Wd.call (Wf.mono (counting_Match_ok (w := w) (hz _ (H.ok 1 _ rfl)).1 (hz _ (H.ok 1 _ rfl)).2.1 (hz _ (H.ok 1 _ rfl)).2.2 (by omega)) ?_)
      rintro _ s13 ⟨rfl, c13⟩
      have H := H.pur c13
      refine ⟨⟨fun _ => ⟨_, _, Step.loadN rfl (H.row 0 rfl) (by rfl), veq_agg3 (Sl.veq1 (hz _ (H.ok 1 _ rfl)).1) (Sl.veq1 (hz _ (H.ok 1 _ rfl)).2.1) (Sl.veq1 (hz _ (H.ok 1 _ rfl)).2.2)⟩, fun h => absurd h (by omega), fun h => absurd h (by omega), fun h => absurd h (by omega), trivial⟩, ?_⟩; refine Wd.on rfl ?_
      -- call ref37_Match
      refine Wd.call (Wf.mono (ref37_Match_ok (w := w) (hz _ (H.ok 1 _ rfl)).1 (hz _ (H.ok 1 _ rfl)).2.1 (hz _ (H.ok 1 _ rfl)).2.2 (fun A h => h) (by omega)) ?_)
      rintro _ s14 ⟨rfl, c14⟩
      have H := H.pur c14
      refine ⟨⟨fun h => absurd h (by omega), fun h => absurd h (by omega), fun h => absurd h (by omega), fun h => absurd h (by omega), trivial⟩, ?_⟩; refine Wd.on rfl ?_; refine Wd.pure rfl (Step.eqB rfl rfl) ?_; refine Wd.pure rfl (Step.pickT rfl (by conv => lhs; whnf)) ?_; refine Wd.pure rfl (Step.move (by conv => lhs; whnf)) ?_; refine Wd.cases (j := 76) rfl (fun hc76 => ?_) (fun hc76 => ?_)
      · refine Wd.on rfl ?_
        -- call law37_known
        refine Wd.call (Wf.mono (law37_known_ok) ?_)
        rintro _ _ ⟨rfl, rfl⟩
        refine ⟨⟨fun h => absurd h (by omega), fun h => absurd h (by omega), fun h => absurd h (by omega), fun h => absurd h (by omega), trivial⟩, ?_⟩; refine Wd.pure rfl (Step.pickT rfl (by conv => lhs; whnf)) ?_; refine Wd.pure rfl (Step.move (by conv => lhs; whnf)) ?_; refine Wd.nil ?_; refine Wc.ret ⟨_, Rs.tmp (by conv => lhs; whnf) (Rs.nil), ?_⟩
        rfl
      · exact absurd rfl hc76
    · exact absurd rfl hc67
end Go.EvK
end

section
set_option linter.unusedVariables false
namespace Go.EvK
open Go Go.Ev Go.EvW Go.Co Go.RowKit
theorem countingMade_calls (W : World) {a0 : Option Addr} {len0 cap0 : Nat} {z0 : List Int} {n1 n2 n3 : Int} (h0 : InRow W a0 len0 cap0 z0) (y0 : len0 * 8 ≤ 140737488351232) (i1 : I64 n1) (i2 : I64 n2) :
    Calls Go.Proofs.Try.prog 7 #[.slice a0 len0 cap0, .int .i64 n1, .int .i64 n2, .int .i64 n3] W fun e W' => e = .returned (.bool true) ∧ Below W.heap.size W W' := by
  obtain ⟨β0, s0, v0, w0, l0, r0, p0, i0, n0, q0⟩ := (WR.start W).inputI rfl h0
  exact calls_of mixed (kprog_ok Go.Ev.K37.known) w0 (.cons _ _ _ _ r0 (.cons _ _ _ _ (.int _ _) (.cons _ _ _ _ (.int _ _) (.cons _ _ _ _ (.int _ _) .nil))))
    (law37_CountingMade_ok i0 (fun A h => h) (by omega) q0 i1 i2)
end Go.EvK
end
